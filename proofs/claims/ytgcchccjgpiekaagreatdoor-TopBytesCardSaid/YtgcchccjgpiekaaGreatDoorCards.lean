/-
  DERIVED. GIVEN WITH THE SEED: THE CARDS: each row of YtgcchccjgpiekaaGreatDoorRows.lean that lists a variable, with what it lists TIED to the program's text (the seventh form; the later family's looks); each row that meets fmt, with fmt's text TOLD by the authors' own Lean function (tested against real Go, not proved from fmt's source: count such statements apart). THE CARD IS WHAT COUNTS. Prove the row's statement (the work); the ties are given (YtgcchccjgpiekaaGreatDoorTie.lean); close each card by the builder's one call (the guide's Derived/Test/ToyasCard.lean, 'card_holds'). Laid BY PROGRAM, IN A SANDBOX (cutbox-door.mjs). By AI agents, Wed Nov 11 2026. No macro, syntax, notation, axiom, sorry.
-/
import Derived.Test.YtgcchccjgpiekaaGreatDoorRows
import GoSem.ClaimSeven
namespace Go.Proofs.YtgcchccjgpiekaaGreatDoor
namespace Rows

/-- THE TIED CARD OF 'engramtop.TopCopies'. -/
def topCopiesCard : Claim7 := { stood := { row := topCopiesRow, standIns := [], harness := (true, "2209adf8a66abb5167bc24e265663a4a24c3a3db76809bb2cfe9cecb4299e8d3"), looks := true }, kinds := [], alts := [], laidByText := true, laidKinds := [.data, .data, .data, .sentinel, .sentinel], laidTests := true, laidLooks := .later }
def TopCopiesCardSaid : Prop := Claim7.holds Tryz.pinned (.plain (OpenSpec.ofChange topCopiesSpec)) topCopiesCard

/-- THE TIED CARD OF 'engramtop.TopSorts'. -/
def topSortsCard : Claim7 := { stood := { row := topSortsRow, standIns := [], harness := (true, "2209adf8a66abb5167bc24e265663a4a24c3a3db76809bb2cfe9cecb4299e8d3"), looks := true }, kinds := [], alts := [], laidByText := true, laidKinds := [.data, .data, .data, .sentinel, .sentinel], laidTests := true, laidLooks := .later }
def TopSortsCardSaid : Prop := Claim7.holds Tryz.pinned (.plain (OpenSpec.ofChange topSortsSpec)) topSortsCard

/-- THE TIED CARD OF 'engramtop.TopParts'. -/
def topPartsCard : Claim7 := { stood := { row := topPartsRow, standIns := [], harness := (true, "2209adf8a66abb5167bc24e265663a4a24c3a3db76809bb2cfe9cecb4299e8d3"), looks := true }, kinds := [], alts := [], laidByText := true, laidKinds := [.data, .data, .data, .sentinel, .sentinel], laidTests := true, laidLooks := .later }
def TopPartsCardSaid : Prop := Claim7.holds Tryz.pinned (.plain (OpenSpec.ofChange topPartsSpec)) topPartsCard

/-- THE TIED CARD OF 'engramtop.TopNested'. -/
def topNestedCard : Claim7 := { stood := { row := topNestedRow, standIns := [], harness := (true, "2209adf8a66abb5167bc24e265663a4a24c3a3db76809bb2cfe9cecb4299e8d3"), looks := true }, kinds := [], alts := [], laidByText := true, laidKinds := [.data, .data, .data, .sentinel, .sentinel], laidTests := true, laidLooks := .later }
def TopNestedCardSaid : Prop := Claim7.holds Tryz.pinned (.plain (OpenSpec.ofChange topNestedSpec)) topNestedCard

/-- THE TIED CARD OF 'engramtop.TopEvens'. -/
def topEvensCard : Claim7 := { stood := { row := topEvensRow, standIns := [], harness := (true, "2209adf8a66abb5167bc24e265663a4a24c3a3db76809bb2cfe9cecb4299e8d3"), looks := true }, kinds := [], alts := [], laidByText := true, laidKinds := [.data, .data, .data, .sentinel, .sentinel], laidTests := true, laidLooks := .later }
def TopEvensCardSaid : Prop := Claim7.holds Tryz.pinned (.plain (OpenSpec.ofChange topEvensSpec)) topEvensCard

/-- THE TIED CARD OF 'engramtop.TopReplies'. -/
def topRepliesCard : Claim7 := { stood := { row := topRepliesRow, standIns := [], harness := (true, "2209adf8a66abb5167bc24e265663a4a24c3a3db76809bb2cfe9cecb4299e8d3"), looks := true }, kinds := [], alts := [], laidByText := true, laidKinds := [.data, .data, .data, .sentinel, .sentinel], laidTests := true, laidLooks := .later }
def TopRepliesCardSaid : Prop := Claim7.holds Tryz.pinned (.plain (OpenSpec.ofChange topRepliesSpec)) topRepliesCard

/-- THE TIED CARD OF 'engramtop.TopDoubles'. -/
def topDoublesCard : Claim7 := { stood := { row := topDoublesRow, standIns := [], harness := (true, "2209adf8a66abb5167bc24e265663a4a24c3a3db76809bb2cfe9cecb4299e8d3"), looks := true }, kinds := [], alts := [], laidByText := true, laidKinds := [.data, .data, .data, .sentinel, .sentinel], laidTests := true, laidLooks := .later }
def TopDoublesCardSaid : Prop := Claim7.holds Tryz.pinned (.plain (OpenSpec.ofChange topDoublesSpec)) topDoublesCard

/-- THE TIED CARD OF 'engramtop.TopFactorials'. -/
def topFactorialsCard : Claim7 := { stood := { row := topFactorialsRow, standIns := [], harness := (true, "2209adf8a66abb5167bc24e265663a4a24c3a3db76809bb2cfe9cecb4299e8d3"), looks := true }, kinds := [], alts := [], laidByText := true, laidKinds := [.data, .data, .data, .sentinel, .sentinel], laidTests := true, laidLooks := .later }
def TopFactorialsCardSaid : Prop := Claim7.holds Tryz.pinned (.plain (OpenSpec.ofChange topFactorialsSpec)) topFactorialsCard

/-- THE TIED CARD OF 'engramtop.TopDigits'. -/
def topDigitsCard : Claim7 := { stood := { row := topDigitsRow, standIns := [], harness := (true, "2209adf8a66abb5167bc24e265663a4a24c3a3db76809bb2cfe9cecb4299e8d3"), looks := true }, kinds := [], alts := [], laidByText := true, laidKinds := [.data, .data, .data, .sentinel, .sentinel], laidTests := true, laidLooks := .later }
def TopDigitsCardSaid : Prop := Claim7.holds Tryz.pinned (.plain (OpenSpec.ofChange topDigitsSpec)) topDigitsCard

/-- THE TIED CARD OF 'engramtop.TopRoots'. -/
def topRootsCard : Claim7 := { stood := { row := topRootsRow, standIns := [], harness := (true, "2209adf8a66abb5167bc24e265663a4a24c3a3db76809bb2cfe9cecb4299e8d3"), looks := true }, kinds := [], alts := [], laidByText := true, laidKinds := [.data, .data, .data, .sentinel, .sentinel], laidTests := true, laidLooks := .later }
def TopRootsCardSaid : Prop := Claim7.holds Tryz.pinned (.plain (OpenSpec.ofChange topRootsSpec)) topRootsCard

/-- THE TIED CARD OF 'engramtop.TopBytes'. -/
def topBytesCard : Claim7 := { stood := { row := topBytesRow, standIns := [], harness := (true, "2209adf8a66abb5167bc24e265663a4a24c3a3db76809bb2cfe9cecb4299e8d3"), looks := true }, kinds := [], alts := [], laidByText := true, laidKinds := [.data, .data, .data, .sentinel, .sentinel], laidTests := true, laidLooks := .later }
def TopBytesCardSaid : Prop := Claim7.holds Tryz.pinned (.plain (OpenSpec.ofChange topBytesSpec)) topBytesCard

/-- THE SECOND FORM's CARD OF 'engramtop.TopCopies'. -/
def topCopiesUptoCard : Claim7 := { stood := { row := topCopiesUptoRow, standIns := [], harness := (true, "2209adf8a66abb5167bc24e265663a4a24c3a3db76809bb2cfe9cecb4299e8d3"), looks := true }, kinds := [], alts := [], laidByText := true, laidKinds := [.data, .data, .data, .sentinel, .sentinel], laidTests := true, laidLooks := .later }
def TopCopiesUptoCardSaid : Prop := Claim7.holds Tryz.pinned (.plain (OpenSpec.upto topCopiesSpec)) topCopiesUptoCard

/-- THE SECOND FORM's CARD OF 'engramtop.TopSorts'. -/
def topSortsUptoCard : Claim7 := { stood := { row := topSortsUptoRow, standIns := [], harness := (true, "2209adf8a66abb5167bc24e265663a4a24c3a3db76809bb2cfe9cecb4299e8d3"), looks := true }, kinds := [], alts := [], laidByText := true, laidKinds := [.data, .data, .data, .sentinel, .sentinel], laidTests := true, laidLooks := .later }
def TopSortsUptoCardSaid : Prop := Claim7.holds Tryz.pinned (.plain (OpenSpec.upto topSortsSpec)) topSortsUptoCard

/-- THE SECOND FORM's CARD OF 'engramtop.TopParts'. -/
def topPartsUptoCard : Claim7 := { stood := { row := topPartsUptoRow, standIns := [], harness := (true, "2209adf8a66abb5167bc24e265663a4a24c3a3db76809bb2cfe9cecb4299e8d3"), looks := true }, kinds := [], alts := [], laidByText := true, laidKinds := [.data, .data, .data, .sentinel, .sentinel], laidTests := true, laidLooks := .later }
def TopPartsUptoCardSaid : Prop := Claim7.holds Tryz.pinned (.plain (OpenSpec.upto topPartsSpec)) topPartsUptoCard

/-- THE SECOND FORM's CARD OF 'engramtop.TopNested'. -/
def topNestedUptoCard : Claim7 := { stood := { row := topNestedUptoRow, standIns := [], harness := (true, "2209adf8a66abb5167bc24e265663a4a24c3a3db76809bb2cfe9cecb4299e8d3"), looks := true }, kinds := [], alts := [], laidByText := true, laidKinds := [.data, .data, .data, .sentinel, .sentinel], laidTests := true, laidLooks := .later }
def TopNestedUptoCardSaid : Prop := Claim7.holds Tryz.pinned (.plain (OpenSpec.upto topNestedSpec)) topNestedUptoCard

/-- THE SECOND FORM's CARD OF 'engramtop.TopEvens'. -/
def topEvensUptoCard : Claim7 := { stood := { row := topEvensUptoRow, standIns := [], harness := (true, "2209adf8a66abb5167bc24e265663a4a24c3a3db76809bb2cfe9cecb4299e8d3"), looks := true }, kinds := [], alts := [], laidByText := true, laidKinds := [.data, .data, .data, .sentinel, .sentinel], laidTests := true, laidLooks := .later }
def TopEvensUptoCardSaid : Prop := Claim7.holds Tryz.pinned (.plain (OpenSpec.upto topEvensSpec)) topEvensUptoCard

/-- THE SECOND FORM's CARD OF 'engramtop.TopReplies'. -/
def topRepliesUptoCard : Claim7 := { stood := { row := topRepliesUptoRow, standIns := [], harness := (true, "2209adf8a66abb5167bc24e265663a4a24c3a3db76809bb2cfe9cecb4299e8d3"), looks := true }, kinds := [], alts := [], laidByText := true, laidKinds := [.data, .data, .data, .sentinel, .sentinel], laidTests := true, laidLooks := .later }
def TopRepliesUptoCardSaid : Prop := Claim7.holds Tryz.pinned (.plain (OpenSpec.upto topRepliesSpec)) topRepliesUptoCard

/-- THE SECOND FORM's CARD OF 'engramtop.TopDoubles'. -/
def topDoublesUptoCard : Claim7 := { stood := { row := topDoublesUptoRow, standIns := [], harness := (true, "2209adf8a66abb5167bc24e265663a4a24c3a3db76809bb2cfe9cecb4299e8d3"), looks := true }, kinds := [], alts := [], laidByText := true, laidKinds := [.data, .data, .data, .sentinel, .sentinel], laidTests := true, laidLooks := .later }
def TopDoublesUptoCardSaid : Prop := Claim7.holds Tryz.pinned (.plain (OpenSpec.upto topDoublesSpec)) topDoublesUptoCard

/-- THE SECOND FORM's CARD OF 'engramtop.TopFactorials'. -/
def topFactorialsUptoCard : Claim7 := { stood := { row := topFactorialsUptoRow, standIns := [], harness := (true, "2209adf8a66abb5167bc24e265663a4a24c3a3db76809bb2cfe9cecb4299e8d3"), looks := true }, kinds := [], alts := [], laidByText := true, laidKinds := [.data, .data, .data, .sentinel, .sentinel], laidTests := true, laidLooks := .later }
def TopFactorialsUptoCardSaid : Prop := Claim7.holds Tryz.pinned (.plain (OpenSpec.upto topFactorialsSpec)) topFactorialsUptoCard

/-- THE SECOND FORM's CARD OF 'engramtop.TopDigits'. -/
def topDigitsUptoCard : Claim7 := { stood := { row := topDigitsUptoRow, standIns := [], harness := (true, "2209adf8a66abb5167bc24e265663a4a24c3a3db76809bb2cfe9cecb4299e8d3"), looks := true }, kinds := [], alts := [], laidByText := true, laidKinds := [.data, .data, .data, .sentinel, .sentinel], laidTests := true, laidLooks := .later }
def TopDigitsUptoCardSaid : Prop := Claim7.holds Tryz.pinned (.plain (OpenSpec.upto topDigitsSpec)) topDigitsUptoCard

/-- THE SECOND FORM's CARD OF 'engramtop.TopRoots'. -/
def topRootsUptoCard : Claim7 := { stood := { row := topRootsUptoRow, standIns := [], harness := (true, "2209adf8a66abb5167bc24e265663a4a24c3a3db76809bb2cfe9cecb4299e8d3"), looks := true }, kinds := [], alts := [], laidByText := true, laidKinds := [.data, .data, .data, .sentinel, .sentinel], laidTests := true, laidLooks := .later }
def TopRootsUptoCardSaid : Prop := Claim7.holds Tryz.pinned (.plain (OpenSpec.upto topRootsSpec)) topRootsUptoCard

/-- THE SECOND FORM's CARD OF 'engramtop.TopBytes'. -/
def topBytesUptoCard : Claim7 := { stood := { row := topBytesUptoRow, standIns := [], harness := (true, "2209adf8a66abb5167bc24e265663a4a24c3a3db76809bb2cfe9cecb4299e8d3"), looks := true }, kinds := [], alts := [], laidByText := true, laidKinds := [.data, .data, .data, .sentinel, .sentinel], laidTests := true, laidLooks := .later }
def TopBytesUptoCardSaid : Prop := Claim7.holds Tryz.pinned (.plain (OpenSpec.upto topBytesSpec)) topBytesUptoCard
end Rows
end Go.Proofs.YtgcchccjgpiekaaGreatDoor
