/-
  DERIVED. GIVEN WITH THE SEED: THE CARDS: each row of YtoilfkojhaidhaaGreatDoorRows.lean that lists a variable, with what it lists TIED to the program's text (the seventh form; the later family's looks); each row that meets fmt, with fmt's text TOLD by the authors' own Lean function (tested against real Go, not proved from fmt's source: count such statements apart). THE CARD IS WHAT COUNTS. Prove the row's statement (the work); the ties are given (YtoilfkojhaidhaaGreatDoorTie.lean); close each card by the builder's one call (the guide's Derived/Test/ToyasCard.lean, 'card_holds'). Laid BY PROGRAM, IN A SANDBOX (cutbox-door.mjs). By AI agents, Wed Nov 11 2026. No macro, syntax, notation, axiom, sorry.
-/
import Derived.Test.YtoilfkojhaidhaaGreatDoorRows
import GoSem.ClaimSeven
namespace Go.Proofs.YtoilfkojhaidhaaGreatDoor
namespace Rows

/-- THE TIED CARD OF 'engramlaw14.EngineFuel'. -/
def engineFuelCard : Claim7 := { stood := { row := engineFuelRow, standIns := [], harness := (true, "24c0e782901b6866943a0d50a38fec3be77beb5443a1b3c4d75433ee3ffb7b05"), looks := true }, kinds := [], alts := [], laidByText := true, laidKinds := [.data, .data, .data, .sentinel, .sentinel], laidTests := true, laidLooks := .later }
def EngineFuelCardSaid : Prop := Claim7.holds Tryz.pinned (.plain (OpenSpec.ofChange engineFuelSpec)) engineFuelCard

/-- THE TIED CARD OF 'engramlaw14.EngineAsks'. -/
def engineAsksCard : Claim7 := { stood := { row := engineAsksRow, standIns := [], harness := (true, "24c0e782901b6866943a0d50a38fec3be77beb5443a1b3c4d75433ee3ffb7b05"), looks := true }, kinds := [], alts := [], laidByText := true, laidKinds := [.data, .data, .data, .sentinel, .sentinel], laidTests := true, laidLooks := .later }
def EngineAsksCardSaid : Prop := Claim7.holds Tryz.pinned (.plain (OpenSpec.ofChange engineAsksSpec)) engineAsksCard

/-- THE TIED CARD OF 'engramlaw14.EngineNumbers'. -/
def engineNumbersCard : Claim7 := { stood := { row := engineNumbersRow, standIns := [], harness := (true, "24c0e782901b6866943a0d50a38fec3be77beb5443a1b3c4d75433ee3ffb7b05"), looks := true }, kinds := [], alts := [], laidByText := true, laidKinds := [.data, .data, .data, .sentinel, .sentinel], laidTests := true, laidLooks := .later }
def EngineNumbersCardSaid : Prop := Claim7.holds Tryz.pinned (.plain (OpenSpec.ofChange engineNumbersSpec)) engineNumbersCard

/-- THE TIED CARD OF 'engramlaw14.EnginePlays'. -/
def enginePlaysCard : Claim7 := { stood := { row := enginePlaysRow, standIns := [], harness := (true, "24c0e782901b6866943a0d50a38fec3be77beb5443a1b3c4d75433ee3ffb7b05"), looks := true }, kinds := [], alts := [], laidByText := true, laidKinds := [.data, .data, .data, .sentinel, .sentinel], laidTests := true, laidLooks := .later }
def EnginePlaysCardSaid : Prop := Claim7.holds Tryz.pinned (.plain (OpenSpec.ofChange enginePlaysSpec)) enginePlaysCard

/-- THE TIED CARD OF 'engramlaw14.EngineCopies'. -/
def engineCopiesCard : Claim7 := { stood := { row := engineCopiesRow, standIns := [], harness := (true, "24c0e782901b6866943a0d50a38fec3be77beb5443a1b3c4d75433ee3ffb7b05"), looks := true }, kinds := [], alts := [], laidByText := true, laidKinds := [.data, .data, .data, .sentinel, .sentinel], laidTests := true, laidLooks := .later }
def EngineCopiesCardSaid : Prop := Claim7.holds Tryz.pinned (.plain (OpenSpec.ofChange engineCopiesSpec)) engineCopiesCard

/-- THE TIED CARD OF 'engramlaw23.TableNumbers'. -/
def tableNumbersCard : Claim7 := { stood := { row := tableNumbersRow, standIns := [], harness := (true, "24c0e782901b6866943a0d50a38fec3be77beb5443a1b3c4d75433ee3ffb7b05"), looks := true }, kinds := [], alts := [], laidByText := true, laidKinds := [.data, .data, .data, .sentinel, .sentinel], laidTests := true, laidLooks := .later }
def TableNumbersCardSaid : Prop := Claim7.holds Tryz.pinned (.plain (OpenSpec.ofChange tableNumbersSpec)) tableNumbersCard

/-- THE TIED CARD OF 'engramlaw23.TablePlays'. -/
def tablePlaysCard : Claim7 := { stood := { row := tablePlaysRow, standIns := [], harness := (true, "24c0e782901b6866943a0d50a38fec3be77beb5443a1b3c4d75433ee3ffb7b05"), looks := true }, kinds := [], alts := [], laidByText := true, laidKinds := [.data, .data, .data, .sentinel, .sentinel], laidTests := true, laidLooks := .later }
def TablePlaysCardSaid : Prop := Claim7.holds Tryz.pinned (.plain (OpenSpec.ofChange tablePlaysSpec)) tablePlaysCard

/-- THE TIED CARD OF 'engramlaw23.TableOrder'. -/
def tableOrderCard : Claim7 := { stood := { row := tableOrderRow, standIns := [], harness := (true, "24c0e782901b6866943a0d50a38fec3be77beb5443a1b3c4d75433ee3ffb7b05"), looks := true }, kinds := [], alts := [], laidByText := true, laidKinds := [.data, .data, .data, .sentinel, .sentinel], laidTests := true, laidLooks := .later }
def TableOrderCardSaid : Prop := Claim7.holds Tryz.pinned (.plain (OpenSpec.ofChange tableOrderSpec)) tableOrderCard

/-- THE TIED CARD OF 'engramlaw23.TableSmall'. -/
def tableSmallCard : Claim7 := { stood := { row := tableSmallRow, standIns := [], harness := (true, "24c0e782901b6866943a0d50a38fec3be77beb5443a1b3c4d75433ee3ffb7b05"), looks := true }, kinds := [], alts := [], laidByText := true, laidKinds := [.data, .data, .data, .sentinel, .sentinel], laidTests := true, laidLooks := .later }
def TableSmallCardSaid : Prop := Claim7.holds Tryz.pinned (.plain (OpenSpec.ofChange tableSmallSpec)) tableSmallCard

/-- THE TIED CARD OF 'engramlaw27.ModelNumbers'. -/
def modelNumbersCard : Claim7 := { stood := { row := modelNumbersRow, standIns := [], harness := (true, "24c0e782901b6866943a0d50a38fec3be77beb5443a1b3c4d75433ee3ffb7b05"), looks := true }, kinds := [], alts := [], laidByText := true, laidKinds := [.data, .data, .data, .sentinel, .sentinel], laidTests := true, laidLooks := .later }
def ModelNumbersCardSaid : Prop := Claim7.holds Tryz.pinned (.plain (OpenSpec.ofChange modelNumbersSpec)) modelNumbersCard

/-- THE TIED CARD OF 'engramlaw27.ModelTells'. -/
def modelTellsCard : Claim7 := { stood := { row := modelTellsRow, standIns := [], harness := (true, "24c0e782901b6866943a0d50a38fec3be77beb5443a1b3c4d75433ee3ffb7b05"), looks := true }, kinds := [], alts := [], laidByText := true, laidKinds := [.data, .data, .data, .sentinel, .sentinel], laidTests := true, laidLooks := .later }
def ModelTellsCardSaid : Prop := Claim7.holds Tryz.pinned (.plain (OpenSpec.ofChange modelTellsSpec)) modelTellsCard

/-- THE TIED CARD OF 'engramlaw27.ModelParts'. -/
def modelPartsCard : Claim7 := { stood := { row := modelPartsRow, standIns := [], harness := (true, "24c0e782901b6866943a0d50a38fec3be77beb5443a1b3c4d75433ee3ffb7b05"), looks := true }, kinds := [], alts := [], laidByText := true, laidKinds := [.data, .data, .data, .sentinel, .sentinel], laidTests := true, laidLooks := .later }
def ModelPartsCardSaid : Prop := Claim7.holds Tryz.pinned (.plain (OpenSpec.ofChange modelPartsSpec)) modelPartsCard

/-- THE SECOND FORM's CARD OF 'engramlaw14.EngineFuel'. -/
def engineFuelUptoCard : Claim7 := { stood := { row := engineFuelUptoRow, standIns := [], harness := (true, "24c0e782901b6866943a0d50a38fec3be77beb5443a1b3c4d75433ee3ffb7b05"), looks := true }, kinds := [], alts := [], laidByText := true, laidKinds := [.data, .data, .data, .sentinel, .sentinel], laidTests := true, laidLooks := .later }
def EngineFuelUptoCardSaid : Prop := Claim7.holds Tryz.pinned (.plain (OpenSpec.upto engineFuelSpec)) engineFuelUptoCard

/-- THE SECOND FORM's CARD OF 'engramlaw14.EngineAsks'. -/
def engineAsksUptoCard : Claim7 := { stood := { row := engineAsksUptoRow, standIns := [], harness := (true, "24c0e782901b6866943a0d50a38fec3be77beb5443a1b3c4d75433ee3ffb7b05"), looks := true }, kinds := [], alts := [], laidByText := true, laidKinds := [.data, .data, .data, .sentinel, .sentinel], laidTests := true, laidLooks := .later }
def EngineAsksUptoCardSaid : Prop := Claim7.holds Tryz.pinned (.plain (OpenSpec.upto engineAsksSpec)) engineAsksUptoCard

/-- THE SECOND FORM's CARD OF 'engramlaw14.EngineNumbers'. -/
def engineNumbersUptoCard : Claim7 := { stood := { row := engineNumbersUptoRow, standIns := [], harness := (true, "24c0e782901b6866943a0d50a38fec3be77beb5443a1b3c4d75433ee3ffb7b05"), looks := true }, kinds := [], alts := [], laidByText := true, laidKinds := [.data, .data, .data, .sentinel, .sentinel], laidTests := true, laidLooks := .later }
def EngineNumbersUptoCardSaid : Prop := Claim7.holds Tryz.pinned (.plain (OpenSpec.upto engineNumbersSpec)) engineNumbersUptoCard

/-- THE SECOND FORM's CARD OF 'engramlaw14.EnginePlays'. -/
def enginePlaysUptoCard : Claim7 := { stood := { row := enginePlaysUptoRow, standIns := [], harness := (true, "24c0e782901b6866943a0d50a38fec3be77beb5443a1b3c4d75433ee3ffb7b05"), looks := true }, kinds := [], alts := [], laidByText := true, laidKinds := [.data, .data, .data, .sentinel, .sentinel], laidTests := true, laidLooks := .later }
def EnginePlaysUptoCardSaid : Prop := Claim7.holds Tryz.pinned (.plain (OpenSpec.upto enginePlaysSpec)) enginePlaysUptoCard

/-- THE SECOND FORM's CARD OF 'engramlaw14.EngineCopies'. -/
def engineCopiesUptoCard : Claim7 := { stood := { row := engineCopiesUptoRow, standIns := [], harness := (true, "24c0e782901b6866943a0d50a38fec3be77beb5443a1b3c4d75433ee3ffb7b05"), looks := true }, kinds := [], alts := [], laidByText := true, laidKinds := [.data, .data, .data, .sentinel, .sentinel], laidTests := true, laidLooks := .later }
def EngineCopiesUptoCardSaid : Prop := Claim7.holds Tryz.pinned (.plain (OpenSpec.upto engineCopiesSpec)) engineCopiesUptoCard

/-- THE SECOND FORM's CARD OF 'engramlaw23.TableNumbers'. -/
def tableNumbersUptoCard : Claim7 := { stood := { row := tableNumbersUptoRow, standIns := [], harness := (true, "24c0e782901b6866943a0d50a38fec3be77beb5443a1b3c4d75433ee3ffb7b05"), looks := true }, kinds := [], alts := [], laidByText := true, laidKinds := [.data, .data, .data, .sentinel, .sentinel], laidTests := true, laidLooks := .later }
def TableNumbersUptoCardSaid : Prop := Claim7.holds Tryz.pinned (.plain (OpenSpec.upto tableNumbersSpec)) tableNumbersUptoCard

/-- THE SECOND FORM's CARD OF 'engramlaw23.TablePlays'. -/
def tablePlaysUptoCard : Claim7 := { stood := { row := tablePlaysUptoRow, standIns := [], harness := (true, "24c0e782901b6866943a0d50a38fec3be77beb5443a1b3c4d75433ee3ffb7b05"), looks := true }, kinds := [], alts := [], laidByText := true, laidKinds := [.data, .data, .data, .sentinel, .sentinel], laidTests := true, laidLooks := .later }
def TablePlaysUptoCardSaid : Prop := Claim7.holds Tryz.pinned (.plain (OpenSpec.upto tablePlaysSpec)) tablePlaysUptoCard

/-- THE SECOND FORM's CARD OF 'engramlaw23.TableOrder'. -/
def tableOrderUptoCard : Claim7 := { stood := { row := tableOrderUptoRow, standIns := [], harness := (true, "24c0e782901b6866943a0d50a38fec3be77beb5443a1b3c4d75433ee3ffb7b05"), looks := true }, kinds := [], alts := [], laidByText := true, laidKinds := [.data, .data, .data, .sentinel, .sentinel], laidTests := true, laidLooks := .later }
def TableOrderUptoCardSaid : Prop := Claim7.holds Tryz.pinned (.plain (OpenSpec.upto tableOrderSpec)) tableOrderUptoCard

/-- THE SECOND FORM's CARD OF 'engramlaw23.TableSmall'. -/
def tableSmallUptoCard : Claim7 := { stood := { row := tableSmallUptoRow, standIns := [], harness := (true, "24c0e782901b6866943a0d50a38fec3be77beb5443a1b3c4d75433ee3ffb7b05"), looks := true }, kinds := [], alts := [], laidByText := true, laidKinds := [.data, .data, .data, .sentinel, .sentinel], laidTests := true, laidLooks := .later }
def TableSmallUptoCardSaid : Prop := Claim7.holds Tryz.pinned (.plain (OpenSpec.upto tableSmallSpec)) tableSmallUptoCard

/-- THE SECOND FORM's CARD OF 'engramlaw27.ModelNumbers'. -/
def modelNumbersUptoCard : Claim7 := { stood := { row := modelNumbersUptoRow, standIns := [], harness := (true, "24c0e782901b6866943a0d50a38fec3be77beb5443a1b3c4d75433ee3ffb7b05"), looks := true }, kinds := [], alts := [], laidByText := true, laidKinds := [.data, .data, .data, .sentinel, .sentinel], laidTests := true, laidLooks := .later }
def ModelNumbersUptoCardSaid : Prop := Claim7.holds Tryz.pinned (.plain (OpenSpec.upto modelNumbersSpec)) modelNumbersUptoCard

/-- THE SECOND FORM's CARD OF 'engramlaw27.ModelTells'. -/
def modelTellsUptoCard : Claim7 := { stood := { row := modelTellsUptoRow, standIns := [], harness := (true, "24c0e782901b6866943a0d50a38fec3be77beb5443a1b3c4d75433ee3ffb7b05"), looks := true }, kinds := [], alts := [], laidByText := true, laidKinds := [.data, .data, .data, .sentinel, .sentinel], laidTests := true, laidLooks := .later }
def ModelTellsUptoCardSaid : Prop := Claim7.holds Tryz.pinned (.plain (OpenSpec.upto modelTellsSpec)) modelTellsUptoCard

/-- THE SECOND FORM's CARD OF 'engramlaw27.ModelParts'. -/
def modelPartsUptoCard : Claim7 := { stood := { row := modelPartsUptoRow, standIns := [], harness := (true, "24c0e782901b6866943a0d50a38fec3be77beb5443a1b3c4d75433ee3ffb7b05"), looks := true }, kinds := [], alts := [], laidByText := true, laidKinds := [.data, .data, .data, .sentinel, .sentinel], laidTests := true, laidLooks := .later }
def ModelPartsUptoCardSaid : Prop := Claim7.holds Tryz.pinned (.plain (OpenSpec.upto modelPartsSpec)) modelPartsUptoCard
end Rows
end Go.Proofs.YtoilfkojhaidhaaGreatDoor
