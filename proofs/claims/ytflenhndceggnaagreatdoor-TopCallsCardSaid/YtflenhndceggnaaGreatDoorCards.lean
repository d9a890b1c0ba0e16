/-
  DERIVED. GIVEN WITH THE SEED: THE CARDS: each row of YtflenhndceggnaaGreatDoorRows.lean that lists a variable, with what it lists TIED to the program's text (the seventh form; the later family's looks); each row that meets fmt, with fmt's text TOLD by the authors' own Lean function (tested against real Go, not proved from fmt's source: count such statements apart). THE CARD IS WHAT COUNTS. Prove the row's statement (the work); the ties are given (YtflenhndceggnaaGreatDoorTie.lean); close each card by the builder's one call (the guide's Derived/Test/ToyasCard.lean, 'card_holds'). Laid BY PROGRAM, IN A SANDBOX (cutbox-door.mjs). By AI agents, Wed Nov 11 2026. No macro, syntax, notation, axiom, sorry.
-/
import Derived.Test.YtflenhndceggnaaGreatDoorRows
import GoSem.ClaimSeven
namespace Go.Proofs.YtflenhndceggnaaGreatDoor
namespace Rows

/-- THE TIED CARD OF 'engramtop.TopSums'. -/
def topSumsCard : Claim7 := { stood := { row := topSumsRow, standIns := [], harness := (true, "0203550e34ec4db45da4efebb79708af913d81f414c0787f243cab45e7b0208a"), looks := true }, kinds := [], alts := [], laidByText := true, laidKinds := [.data, .data, .data, .sentinel, .sentinel], laidTests := true, laidLooks := .later }
def TopSumsCardSaid : Prop := Claim7.holds Tryz.pinned (.plain (OpenSpec.ofChange topSumsSpec)) topSumsCard

/-- THE TIED CARD OF 'engramtop.TopPowers'. -/
def topPowersCard : Claim7 := { stood := { row := topPowersRow, standIns := [], harness := (true, "0203550e34ec4db45da4efebb79708af913d81f414c0787f243cab45e7b0208a"), looks := true }, kinds := [], alts := [], laidByText := true, laidKinds := [.data, .data, .data, .sentinel, .sentinel], laidTests := true, laidLooks := .later }
def TopPowersCardSaid : Prop := Claim7.holds Tryz.pinned (.plain (OpenSpec.ofChange topPowersSpec)) topPowersCard

/-- THE TIED CARD OF 'engramtop.TopGcds'. -/
def topGcdsCard : Claim7 := { stood := { row := topGcdsRow, standIns := [], harness := (true, "0203550e34ec4db45da4efebb79708af913d81f414c0787f243cab45e7b0208a"), looks := true }, kinds := [], alts := [], laidByText := true, laidKinds := [.data, .data, .data, .sentinel, .sentinel], laidTests := true, laidLooks := .later }
def TopGcdsCardSaid : Prop := Claim7.holds Tryz.pinned (.plain (OpenSpec.ofChange topGcdsSpec)) topGcdsCard

/-- THE TIED CARD OF 'engramtop.TopCalls'. -/
def topCallsCard : Claim7 := { stood := { row := topCallsRow, standIns := [], harness := (true, "0203550e34ec4db45da4efebb79708af913d81f414c0787f243cab45e7b0208a"), looks := true }, kinds := [], alts := [], laidByText := true, laidKinds := [.data, .data, .data, .sentinel, .sentinel], laidTests := true, laidLooks := .later }
def TopCallsCardSaid : Prop := Claim7.holds Tryz.pinned (.plain (OpenSpec.ofChange topCallsSpec)) topCallsCard

/-- THE TIED CARD OF 'engramtop.TopSwaps'. -/
def topSwapsCard : Claim7 := { stood := { row := topSwapsRow, standIns := [], harness := (true, "0203550e34ec4db45da4efebb79708af913d81f414c0787f243cab45e7b0208a"), looks := true }, kinds := [], alts := [], laidByText := true, laidKinds := [.data, .data, .data, .sentinel, .sentinel], laidTests := true, laidLooks := .later }
def TopSwapsCardSaid : Prop := Claim7.holds Tryz.pinned (.plain (OpenSpec.ofChange topSwapsSpec)) topSwapsCard

/-- THE TIED CARD OF 'engramtop.TopTraps'. -/
def topTrapsCard : Claim7 := { stood := { row := topTrapsRow, standIns := [], harness := (true, "0203550e34ec4db45da4efebb79708af913d81f414c0787f243cab45e7b0208a"), looks := true }, kinds := [], alts := [], laidByText := true, laidKinds := [.data, .data, .data, .sentinel, .sentinel], laidTests := true, laidLooks := .later }
def TopTrapsCardSaid : Prop := Claim7.holds Tryz.pinned (.plain (OpenSpec.ofChange topTrapsSpec)) topTrapsCard

/-- THE TIED CARD OF 'engramtop.TopGrows'. -/
def topGrowsCard : Claim7 := { stood := { row := topGrowsRow, standIns := [], harness := (true, "0203550e34ec4db45da4efebb79708af913d81f414c0787f243cab45e7b0208a"), looks := true }, kinds := [], alts := [], laidByText := true, laidKinds := [.data, .data, .data, .sentinel, .sentinel], laidTests := true, laidLooks := .later }
def TopGrowsCardSaid : Prop := Claim7.holds Tryz.pinned (.plain (OpenSpec.ofChange topGrowsSpec)) topGrowsCard

/-- THE TIED CARD OF 'engramtop.TopFibs'. -/
def topFibsCard : Claim7 := { stood := { row := topFibsRow, standIns := [], harness := (true, "0203550e34ec4db45da4efebb79708af913d81f414c0787f243cab45e7b0208a"), looks := true }, kinds := [], alts := [], laidByText := true, laidKinds := [.data, .data, .data, .sentinel, .sentinel], laidTests := true, laidLooks := .later }
def TopFibsCardSaid : Prop := Claim7.holds Tryz.pinned (.plain (OpenSpec.ofChange topFibsSpec)) topFibsCard

/-- THE TIED CARD OF 'engramtop.TopPrimes'. -/
def topPrimesCard : Claim7 := { stood := { row := topPrimesRow, standIns := [], harness := (true, "0203550e34ec4db45da4efebb79708af913d81f414c0787f243cab45e7b0208a"), looks := true }, kinds := [], alts := [], laidByText := true, laidKinds := [.data, .data, .data, .sentinel, .sentinel], laidTests := true, laidLooks := .later }
def TopPrimesCardSaid : Prop := Claim7.holds Tryz.pinned (.plain (OpenSpec.ofChange topPrimesSpec)) topPrimesCard

/-- THE TIED CARD OF 'engramtop.TopSteps'. -/
def topStepsCard : Claim7 := { stood := { row := topStepsRow, standIns := [], harness := (true, "0203550e34ec4db45da4efebb79708af913d81f414c0787f243cab45e7b0208a"), looks := true }, kinds := [], alts := [], laidByText := true, laidKinds := [.data, .data, .data, .sentinel, .sentinel], laidTests := true, laidLooks := .later }
def TopStepsCardSaid : Prop := Claim7.holds Tryz.pinned (.plain (OpenSpec.ofChange topStepsSpec)) topStepsCard

/-- THE TIED CARD OF 'engramtop.TopBits'. -/
def topBitsCard : Claim7 := { stood := { row := topBitsRow, standIns := [], harness := (true, "0203550e34ec4db45da4efebb79708af913d81f414c0787f243cab45e7b0208a"), looks := true }, kinds := [], alts := [], laidByText := true, laidKinds := [.data, .data, .data, .sentinel, .sentinel], laidTests := true, laidLooks := .later }
def TopBitsCardSaid : Prop := Claim7.holds Tryz.pinned (.plain (OpenSpec.ofChange topBitsSpec)) topBitsCard

/-- THE TIED CARD OF 'engramtop.TopLeast'. -/
def topLeastCard : Claim7 := { stood := { row := topLeastRow, standIns := [], harness := (true, "0203550e34ec4db45da4efebb79708af913d81f414c0787f243cab45e7b0208a"), looks := true }, kinds := [], alts := [], laidByText := true, laidKinds := [.data, .data, .data, .sentinel, .sentinel], laidTests := true, laidLooks := .later }
def TopLeastCardSaid : Prop := Claim7.holds Tryz.pinned (.plain (OpenSpec.ofChange topLeastSpec)) topLeastCard

/-- THE SECOND FORM's CARD OF 'engramtop.TopSums'. -/
def topSumsUptoCard : Claim7 := { stood := { row := topSumsUptoRow, standIns := [], harness := (true, "0203550e34ec4db45da4efebb79708af913d81f414c0787f243cab45e7b0208a"), looks := true }, kinds := [], alts := [], laidByText := true, laidKinds := [.data, .data, .data, .sentinel, .sentinel], laidTests := true, laidLooks := .later }
def TopSumsUptoCardSaid : Prop := Claim7.holds Tryz.pinned (.plain (OpenSpec.upto topSumsSpec)) topSumsUptoCard

/-- THE SECOND FORM's CARD OF 'engramtop.TopPowers'. -/
def topPowersUptoCard : Claim7 := { stood := { row := topPowersUptoRow, standIns := [], harness := (true, "0203550e34ec4db45da4efebb79708af913d81f414c0787f243cab45e7b0208a"), looks := true }, kinds := [], alts := [], laidByText := true, laidKinds := [.data, .data, .data, .sentinel, .sentinel], laidTests := true, laidLooks := .later }
def TopPowersUptoCardSaid : Prop := Claim7.holds Tryz.pinned (.plain (OpenSpec.upto topPowersSpec)) topPowersUptoCard

/-- THE SECOND FORM's CARD OF 'engramtop.TopGcds'. -/
def topGcdsUptoCard : Claim7 := { stood := { row := topGcdsUptoRow, standIns := [], harness := (true, "0203550e34ec4db45da4efebb79708af913d81f414c0787f243cab45e7b0208a"), looks := true }, kinds := [], alts := [], laidByText := true, laidKinds := [.data, .data, .data, .sentinel, .sentinel], laidTests := true, laidLooks := .later }
def TopGcdsUptoCardSaid : Prop := Claim7.holds Tryz.pinned (.plain (OpenSpec.upto topGcdsSpec)) topGcdsUptoCard

/-- THE SECOND FORM's CARD OF 'engramtop.TopCalls'. -/
def topCallsUptoCard : Claim7 := { stood := { row := topCallsUptoRow, standIns := [], harness := (true, "0203550e34ec4db45da4efebb79708af913d81f414c0787f243cab45e7b0208a"), looks := true }, kinds := [], alts := [], laidByText := true, laidKinds := [.data, .data, .data, .sentinel, .sentinel], laidTests := true, laidLooks := .later }
def TopCallsUptoCardSaid : Prop := Claim7.holds Tryz.pinned (.plain (OpenSpec.upto topCallsSpec)) topCallsUptoCard

/-- THE SECOND FORM's CARD OF 'engramtop.TopSwaps'. -/
def topSwapsUptoCard : Claim7 := { stood := { row := topSwapsUptoRow, standIns := [], harness := (true, "0203550e34ec4db45da4efebb79708af913d81f414c0787f243cab45e7b0208a"), looks := true }, kinds := [], alts := [], laidByText := true, laidKinds := [.data, .data, .data, .sentinel, .sentinel], laidTests := true, laidLooks := .later }
def TopSwapsUptoCardSaid : Prop := Claim7.holds Tryz.pinned (.plain (OpenSpec.upto topSwapsSpec)) topSwapsUptoCard

/-- THE SECOND FORM's CARD OF 'engramtop.TopTraps'. -/
def topTrapsUptoCard : Claim7 := { stood := { row := topTrapsUptoRow, standIns := [], harness := (true, "0203550e34ec4db45da4efebb79708af913d81f414c0787f243cab45e7b0208a"), looks := true }, kinds := [], alts := [], laidByText := true, laidKinds := [.data, .data, .data, .sentinel, .sentinel], laidTests := true, laidLooks := .later }
def TopTrapsUptoCardSaid : Prop := Claim7.holds Tryz.pinned (.plain (OpenSpec.upto topTrapsSpec)) topTrapsUptoCard

/-- THE SECOND FORM's CARD OF 'engramtop.TopGrows'. -/
def topGrowsUptoCard : Claim7 := { stood := { row := topGrowsUptoRow, standIns := [], harness := (true, "0203550e34ec4db45da4efebb79708af913d81f414c0787f243cab45e7b0208a"), looks := true }, kinds := [], alts := [], laidByText := true, laidKinds := [.data, .data, .data, .sentinel, .sentinel], laidTests := true, laidLooks := .later }
def TopGrowsUptoCardSaid : Prop := Claim7.holds Tryz.pinned (.plain (OpenSpec.upto topGrowsSpec)) topGrowsUptoCard

/-- THE SECOND FORM's CARD OF 'engramtop.TopFibs'. -/
def topFibsUptoCard : Claim7 := { stood := { row := topFibsUptoRow, standIns := [], harness := (true, "0203550e34ec4db45da4efebb79708af913d81f414c0787f243cab45e7b0208a"), looks := true }, kinds := [], alts := [], laidByText := true, laidKinds := [.data, .data, .data, .sentinel, .sentinel], laidTests := true, laidLooks := .later }
def TopFibsUptoCardSaid : Prop := Claim7.holds Tryz.pinned (.plain (OpenSpec.upto topFibsSpec)) topFibsUptoCard

/-- THE SECOND FORM's CARD OF 'engramtop.TopPrimes'. -/
def topPrimesUptoCard : Claim7 := { stood := { row := topPrimesUptoRow, standIns := [], harness := (true, "0203550e34ec4db45da4efebb79708af913d81f414c0787f243cab45e7b0208a"), looks := true }, kinds := [], alts := [], laidByText := true, laidKinds := [.data, .data, .data, .sentinel, .sentinel], laidTests := true, laidLooks := .later }
def TopPrimesUptoCardSaid : Prop := Claim7.holds Tryz.pinned (.plain (OpenSpec.upto topPrimesSpec)) topPrimesUptoCard

/-- THE SECOND FORM's CARD OF 'engramtop.TopSteps'. -/
def topStepsUptoCard : Claim7 := { stood := { row := topStepsUptoRow, standIns := [], harness := (true, "0203550e34ec4db45da4efebb79708af913d81f414c0787f243cab45e7b0208a"), looks := true }, kinds := [], alts := [], laidByText := true, laidKinds := [.data, .data, .data, .sentinel, .sentinel], laidTests := true, laidLooks := .later }
def TopStepsUptoCardSaid : Prop := Claim7.holds Tryz.pinned (.plain (OpenSpec.upto topStepsSpec)) topStepsUptoCard

/-- THE SECOND FORM's CARD OF 'engramtop.TopBits'. -/
def topBitsUptoCard : Claim7 := { stood := { row := topBitsUptoRow, standIns := [], harness := (true, "0203550e34ec4db45da4efebb79708af913d81f414c0787f243cab45e7b0208a"), looks := true }, kinds := [], alts := [], laidByText := true, laidKinds := [.data, .data, .data, .sentinel, .sentinel], laidTests := true, laidLooks := .later }
def TopBitsUptoCardSaid : Prop := Claim7.holds Tryz.pinned (.plain (OpenSpec.upto topBitsSpec)) topBitsUptoCard

/-- THE SECOND FORM's CARD OF 'engramtop.TopLeast'. -/
def topLeastUptoCard : Claim7 := { stood := { row := topLeastUptoRow, standIns := [], harness := (true, "0203550e34ec4db45da4efebb79708af913d81f414c0787f243cab45e7b0208a"), looks := true }, kinds := [], alts := [], laidByText := true, laidKinds := [.data, .data, .data, .sentinel, .sentinel], laidTests := true, laidLooks := .later }
def TopLeastUptoCardSaid : Prop := Claim7.holds Tryz.pinned (.plain (OpenSpec.upto topLeastSpec)) topLeastUptoCard
end Rows
end Go.Proofs.YtflenhndceggnaaGreatDoor
