/-
  DERIVED. GIVEN WITH THE SEED: THE CARDS: each row of YtjpdnkfplnnhhaaGreatDoorRows.lean that lists a variable, with what it lists TIED to the program's text (the seventh form; the later family's looks); each row that meets fmt, with fmt's text TOLD by the authors' own Lean function (tested against real Go, not proved from fmt's source: count such statements apart). THE CARD IS WHAT COUNTS. Prove the row's statement (the work); the ties are given (YtjpdnkfplnnhhaaGreatDoorTie.lean); close each card by the builder's one call (the guide's Derived/Test/ToyasCard.lean, 'card_holds'). Laid BY PROGRAM, IN A SANDBOX (cutbox-door.mjs). By AI agents, Wed Nov 11 2026. No macro, syntax, notation, axiom, sorry.
-/
import Derived.Test.YtjpdnkfplnnhhaaGreatDoorRows
import GoSem.ClaimSeven
namespace Go.Proofs.YtjpdnkfplnnhhaaGreatDoor
namespace Rows

/-- THE TIED CARD OF 'belatedlaw8.CondTells'. -/
def condTellsCard : Claim7 := { stood := { row := condTellsRow, standIns := [], harness := (true, "be092f51ca8b83d40ec68f0285afff7df209af5f4d9902e95f9a8a4fc8ea18dd"), looks := true }, kinds := [], alts := [], laidByText := true, laidKinds := [.data, .data, .data, .listed, .data], laidTests := true, laidLooks := .later }
def CondTellsCardSaid : Prop := Claim7.holds Tryz.pinned (.plain (OpenSpec.ofChange condTellsSpec)) condTellsCard

/-- THE TIED CARD OF 'belatedlaw8.CondPrints'. -/
def condPrintsCard : Claim7 := { stood := { row := condPrintsRow, standIns := [], harness := (true, "be092f51ca8b83d40ec68f0285afff7df209af5f4d9902e95f9a8a4fc8ea18dd"), looks := true }, kinds := [], alts := [], laidByText := true, laidKinds := [.data, .data, .data, .listed, .data], laidTests := true, laidLooks := .later }
def CondPrintsCardSaid : Prop := Claim7.holds Tryz.pinned (.plain (OpenSpec.ofChange condPrintsSpec)) condPrintsCard

/-- THE TIED CARD OF 'belatedlaw8.CondJudges'. -/
def condJudgesCard : Claim7 := { stood := { row := condJudgesRow, standIns := [], harness := (true, "be092f51ca8b83d40ec68f0285afff7df209af5f4d9902e95f9a8a4fc8ea18dd"), looks := true }, kinds := [], alts := [], laidByText := true, laidKinds := [.data, .data, .data, .listed, .data], laidTests := true, laidLooks := .later }
def CondJudgesCardSaid : Prop := Claim7.holds Tryz.pinned (.plain (OpenSpec.ofChange condJudgesSpec)) condJudgesCard

/-- THE TIED CARD OF 'belatedlaw8.CondOpposites'. -/
def condOppositesCard : Claim7 := { stood := { row := condOppositesRow, standIns := [], harness := (true, "be092f51ca8b83d40ec68f0285afff7df209af5f4d9902e95f9a8a4fc8ea18dd"), looks := true }, kinds := [], alts := [], laidByText := true, laidKinds := [.data, .data, .data, .listed, .data], laidTests := true, laidLooks := .later }
def CondOppositesCardSaid : Prop := Claim7.holds Tryz.pinned (.plain (OpenSpec.ofChange condOppositesSpec)) condOppositesCard

/-- THE TIED CARD OF 'belatedlaw8.CondLogic'. -/
def condLogicCard : Claim7 := { stood := { row := condLogicRow, standIns := [], harness := (true, "be092f51ca8b83d40ec68f0285afff7df209af5f4d9902e95f9a8a4fc8ea18dd"), looks := true }, kinds := [], alts := [], laidByText := true, laidKinds := [.data, .data, .data, .listed, .data], laidTests := true, laidLooks := .later }
def CondLogicCardSaid : Prop := Claim7.holds Tryz.pinned (.plain (OpenSpec.ofChange condLogicSpec)) condLogicCard

/-- THE TIED CARD OF 'belatedlaw8.CondSorts'. -/
def condSortsCard : Claim7 := { stood := { row := condSortsRow, standIns := [], harness := (true, "be092f51ca8b83d40ec68f0285afff7df209af5f4d9902e95f9a8a4fc8ea18dd"), looks := true }, kinds := [], alts := [], laidByText := true, laidKinds := [.data, .data, .data, .listed, .data], laidTests := true, laidLooks := .later }
def CondSortsCardSaid : Prop := Claim7.holds Tryz.pinned (.plain (OpenSpec.ofChange condSortsSpec)) condSortsCard

/-- THE TIED CARD OF 'belatedlaw8.CondParses'. -/
def condParsesCard : Claim7 := { stood := { row := condParsesRow, standIns := [], harness := (true, "be092f51ca8b83d40ec68f0285afff7df209af5f4d9902e95f9a8a4fc8ea18dd"), looks := true }, kinds := [], alts := [], laidByText := true, laidKinds := [.data, .data, .data, .sentinel, .sentinel, .listed, .data], laidTests := true, laidLooks := .later }
def CondParsesCardSaid : Prop := Claim7.holds Tryz.pinned (.plain (OpenSpec.ofChange condParsesSpec)) condParsesCard

/-- THE TIED CARD OF 'belatedlaw8.CondBack'. -/
def condBackCard : Claim7 := { stood := { row := condBackRow, standIns := [], harness := (true, "be092f51ca8b83d40ec68f0285afff7df209af5f4d9902e95f9a8a4fc8ea18dd"), looks := true }, kinds := [], alts := [], laidByText := true, laidKinds := [.data, .data, .data, .sentinel, .sentinel, .listed, .data], laidTests := true, laidLooks := .later }
def CondBackCardSaid : Prop := Claim7.holds Tryz.pinned (.plain (OpenSpec.ofChange condBackSpec)) condBackCard

/-- THE SECOND FORM's CARD OF 'belatedlaw8.CondTells'. -/
def condTellsUptoCard : Claim7 := { stood := { row := condTellsUptoRow, standIns := [], harness := (true, "be092f51ca8b83d40ec68f0285afff7df209af5f4d9902e95f9a8a4fc8ea18dd"), looks := true }, kinds := [], alts := [], laidByText := true, laidKinds := [.data, .data, .data, .listed, .data], laidTests := true, laidLooks := .later }
def CondTellsUptoCardSaid : Prop := Claim7.holds Tryz.pinned (.plain (OpenSpec.upto condTellsSpec)) condTellsUptoCard

/-- THE SECOND FORM's CARD OF 'belatedlaw8.CondPrints'. -/
def condPrintsUptoCard : Claim7 := { stood := { row := condPrintsUptoRow, standIns := [], harness := (true, "be092f51ca8b83d40ec68f0285afff7df209af5f4d9902e95f9a8a4fc8ea18dd"), looks := true }, kinds := [], alts := [], laidByText := true, laidKinds := [.data, .data, .data, .listed, .data], laidTests := true, laidLooks := .later }
def CondPrintsUptoCardSaid : Prop := Claim7.holds Tryz.pinned (.plain (OpenSpec.upto condPrintsSpec)) condPrintsUptoCard

/-- THE SECOND FORM's CARD OF 'belatedlaw8.CondJudges'. -/
def condJudgesUptoCard : Claim7 := { stood := { row := condJudgesUptoRow, standIns := [], harness := (true, "be092f51ca8b83d40ec68f0285afff7df209af5f4d9902e95f9a8a4fc8ea18dd"), looks := true }, kinds := [], alts := [], laidByText := true, laidKinds := [.data, .data, .data, .listed, .data], laidTests := true, laidLooks := .later }
def CondJudgesUptoCardSaid : Prop := Claim7.holds Tryz.pinned (.plain (OpenSpec.upto condJudgesSpec)) condJudgesUptoCard

/-- THE SECOND FORM's CARD OF 'belatedlaw8.CondOpposites'. -/
def condOppositesUptoCard : Claim7 := { stood := { row := condOppositesUptoRow, standIns := [], harness := (true, "be092f51ca8b83d40ec68f0285afff7df209af5f4d9902e95f9a8a4fc8ea18dd"), looks := true }, kinds := [], alts := [], laidByText := true, laidKinds := [.data, .data, .data, .listed, .data], laidTests := true, laidLooks := .later }
def CondOppositesUptoCardSaid : Prop := Claim7.holds Tryz.pinned (.plain (OpenSpec.upto condOppositesSpec)) condOppositesUptoCard

/-- THE SECOND FORM's CARD OF 'belatedlaw8.CondLogic'. -/
def condLogicUptoCard : Claim7 := { stood := { row := condLogicUptoRow, standIns := [], harness := (true, "be092f51ca8b83d40ec68f0285afff7df209af5f4d9902e95f9a8a4fc8ea18dd"), looks := true }, kinds := [], alts := [], laidByText := true, laidKinds := [.data, .data, .data, .listed, .data], laidTests := true, laidLooks := .later }
def CondLogicUptoCardSaid : Prop := Claim7.holds Tryz.pinned (.plain (OpenSpec.upto condLogicSpec)) condLogicUptoCard

/-- THE SECOND FORM's CARD OF 'belatedlaw8.CondSorts'. -/
def condSortsUptoCard : Claim7 := { stood := { row := condSortsUptoRow, standIns := [], harness := (true, "be092f51ca8b83d40ec68f0285afff7df209af5f4d9902e95f9a8a4fc8ea18dd"), looks := true }, kinds := [], alts := [], laidByText := true, laidKinds := [.data, .data, .data, .listed, .data], laidTests := true, laidLooks := .later }
def CondSortsUptoCardSaid : Prop := Claim7.holds Tryz.pinned (.plain (OpenSpec.upto condSortsSpec)) condSortsUptoCard

/-- THE SECOND FORM's CARD OF 'belatedlaw8.CondParses'. -/
def condParsesUptoCard : Claim7 := { stood := { row := condParsesUptoRow, standIns := [], harness := (true, "be092f51ca8b83d40ec68f0285afff7df209af5f4d9902e95f9a8a4fc8ea18dd"), looks := true }, kinds := [], alts := [], laidByText := true, laidKinds := [.data, .data, .data, .sentinel, .sentinel, .listed, .data], laidTests := true, laidLooks := .later }
def CondParsesUptoCardSaid : Prop := Claim7.holds Tryz.pinned (.plain (OpenSpec.upto condParsesSpec)) condParsesUptoCard

/-- THE SECOND FORM's CARD OF 'belatedlaw8.CondBack'. -/
def condBackUptoCard : Claim7 := { stood := { row := condBackUptoRow, standIns := [], harness := (true, "be092f51ca8b83d40ec68f0285afff7df209af5f4d9902e95f9a8a4fc8ea18dd"), looks := true }, kinds := [], alts := [], laidByText := true, laidKinds := [.data, .data, .data, .sentinel, .sentinel, .listed, .data], laidTests := true, laidLooks := .later }
def CondBackUptoCardSaid : Prop := Claim7.holds Tryz.pinned (.plain (OpenSpec.upto condBackSpec)) condBackUptoCard
end Rows
end Go.Proofs.YtjpdnkfplnnhhaaGreatDoor
