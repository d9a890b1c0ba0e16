/-
  DERIVED. GIVEN WITH THE SEED: THE CARDS: each row of YtliegbpmmjkmkaaDoorRows.lean that lists a variable, with what it lists TIED to the program's text (the seventh form; the later family's looks); each row that meets fmt, with fmt's text TOLD by the authors' own Lean function (tested against real Go, not proved from fmt's source: count such statements apart). THE CARD IS WHAT COUNTS. Prove the row's statement (the work); the ties are given (YtliegbpmmjkmkaaDoorTie.lean); close each card by the builder's one call (the guide's Derived/Test/ToyasCard.lean, 'card_holds'). Laid BY PROGRAM, IN A SANDBOX (cutbox-door.mjs). By AI agents, Wed Nov 11 2026. No macro, syntax, notation, axiom, sorry.
-/
import Derived.Test.YtliegbpmmjkmkaaDoorRows
import GoSem.ClaimSeven
namespace Go.Proofs.YtliegbpmmjkmkaaDoor
namespace Rows

/-- THE TIED CARD OF 'engramlaw9.CheckNumbers'. -/
def checkNumbersCard : Claim7 := { stood := { row := checkNumbersRow, standIns := [], harness := (true, "e9919ff12c545481fc1bafdc89d3c0222fc0d8c13e653e45e478192b85376c2f"), looks := true }, kinds := [], alts := [], laidByText := true, laidKinds := [.data, .data, .data, .sentinel, .sentinel], laidTests := true, laidLooks := .later }
def CheckNumbersCardSaid : Prop := Claim7.holds Tryd.pinned (.plain (OpenSpec.ofChange checkNumbersSpec)) checkNumbersCard

/-- THE TIED CARD OF 'engramlaw9.CheckTells'. -/
def checkTellsCard : Claim7 := { stood := { row := checkTellsRow, standIns := [], harness := (true, "e9919ff12c545481fc1bafdc89d3c0222fc0d8c13e653e45e478192b85376c2f"), looks := true }, kinds := [], alts := [], laidByText := true, laidKinds := [.data, .data, .data, .sentinel, .sentinel], laidTests := true, laidLooks := .later }
def CheckTellsCardSaid : Prop := Claim7.holds Tryd.pinned (.plain (OpenSpec.ofChange checkTellsSpec)) checkTellsCard

/-- THE TIED CARD OF 'engramlaw9.CheckHeights'. -/
def checkHeightsCard : Claim7 := { stood := { row := checkHeightsRow, standIns := [], harness := (true, "e9919ff12c545481fc1bafdc89d3c0222fc0d8c13e653e45e478192b85376c2f"), looks := true }, kinds := [], alts := [], laidByText := true, laidKinds := [.data, .data, .data, .sentinel, .sentinel], laidTests := true, laidLooks := .later }
def CheckHeightsCardSaid : Prop := Claim7.holds Tryd.pinned (.plain (OpenSpec.ofChange checkHeightsSpec)) checkHeightsCard

/-- THE TIED CARD OF 'engramlaw9.CheckMade'. -/
def checkMadeCard : Claim7 := { stood := { row := checkMadeRow, standIns := [], harness := (true, "e9919ff12c545481fc1bafdc89d3c0222fc0d8c13e653e45e478192b85376c2f"), looks := true }, kinds := [], alts := [], laidByText := true, laidKinds := [.data, .data, .data, .sentinel, .sentinel], laidTests := true, laidLooks := .later }
def CheckMadeCardSaid : Prop := Claim7.holds Tryd.pinned (.plain (OpenSpec.ofChange checkMadeSpec)) checkMadeCard

/-- THE SECOND FORM's CARD OF 'engramlaw9.CheckNumbers'. -/
def checkNumbersUptoCard : Claim7 := { stood := { row := checkNumbersUptoRow, standIns := [], harness := (true, "e9919ff12c545481fc1bafdc89d3c0222fc0d8c13e653e45e478192b85376c2f"), looks := true }, kinds := [], alts := [], laidByText := true, laidKinds := [.data, .data, .data, .sentinel, .sentinel], laidTests := true, laidLooks := .later }
def CheckNumbersUptoCardSaid : Prop := Claim7.holds Tryd.pinned (.plain (OpenSpec.upto checkNumbersSpec)) checkNumbersUptoCard

/-- THE SECOND FORM's CARD OF 'engramlaw9.CheckTells'. -/
def checkTellsUptoCard : Claim7 := { stood := { row := checkTellsUptoRow, standIns := [], harness := (true, "e9919ff12c545481fc1bafdc89d3c0222fc0d8c13e653e45e478192b85376c2f"), looks := true }, kinds := [], alts := [], laidByText := true, laidKinds := [.data, .data, .data, .sentinel, .sentinel], laidTests := true, laidLooks := .later }
def CheckTellsUptoCardSaid : Prop := Claim7.holds Tryd.pinned (.plain (OpenSpec.upto checkTellsSpec)) checkTellsUptoCard

/-- THE SECOND FORM's CARD OF 'engramlaw9.CheckHeights'. -/
def checkHeightsUptoCard : Claim7 := { stood := { row := checkHeightsUptoRow, standIns := [], harness := (true, "e9919ff12c545481fc1bafdc89d3c0222fc0d8c13e653e45e478192b85376c2f"), looks := true }, kinds := [], alts := [], laidByText := true, laidKinds := [.data, .data, .data, .sentinel, .sentinel], laidTests := true, laidLooks := .later }
def CheckHeightsUptoCardSaid : Prop := Claim7.holds Tryd.pinned (.plain (OpenSpec.upto checkHeightsSpec)) checkHeightsUptoCard

/-- THE SECOND FORM's CARD OF 'engramlaw9.CheckMade'. -/
def checkMadeUptoCard : Claim7 := { stood := { row := checkMadeUptoRow, standIns := [], harness := (true, "e9919ff12c545481fc1bafdc89d3c0222fc0d8c13e653e45e478192b85376c2f"), looks := true }, kinds := [], alts := [], laidByText := true, laidKinds := [.data, .data, .data, .sentinel, .sentinel], laidTests := true, laidLooks := .later }
def CheckMadeUptoCardSaid : Prop := Claim7.holds Tryd.pinned (.plain (OpenSpec.upto checkMadeSpec)) checkMadeUptoCard
end Rows
end Go.Proofs.YtliegbpmmjkmkaaDoor
