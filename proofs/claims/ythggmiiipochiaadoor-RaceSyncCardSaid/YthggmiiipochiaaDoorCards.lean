/-
  DERIVED. GIVEN WITH THE SEED: THE CARDS: each row of YthggmiiipochiaaDoorRows.lean that lists a variable, with what it lists TIED to the program's text (the seventh form; the later family's looks); each row that meets fmt, with fmt's text TOLD by the authors' own Lean function (tested against real Go, not proved from fmt's source: count such statements apart). THE CARD IS WHAT COUNTS. Prove the row's statement (the work); the ties are given (YthggmiiipochiaaDoorTie.lean); close each card by the builder's one call (the guide's Derived/Test/ToyasCard.lean, 'card_holds'). Laid BY PROGRAM, IN A SANDBOX (cutbox-door.mjs). By AI agents, Wed Nov 11 2026. No macro, syntax, notation, axiom, sorry.
-/
import Derived.Test.YthggmiiipochiaaDoorRows
import GoSem.ClaimSeven
namespace Go.Proofs.YthggmiiipochiaaDoor
namespace Rows

/-- THE TIED CARD OF 'belatedlaw20.RaceSync'. -/
def raceSyncCard : Claim7 := { stood := { row := raceSyncRow, standIns := [], harness := (true, "270b19e2eb04a48988b163d11cd0147038c38f1961c9794d5321cc81d59b6c75"), looks := true }, kinds := [], alts := [], laidByText := true, laidKinds := [.data, .data, .data], laidTests := true, laidLooks := .later }
def RaceSyncCardSaid : Prop := Claim7.holds Tryd.pinned (.plain (OpenSpec.ofChange raceSyncSpec)) raceSyncCard

/-- THE SECOND FORM's CARD OF 'belatedlaw20.RaceSync'. -/
def raceSyncUptoCard : Claim7 := { stood := { row := raceSyncUptoRow, standIns := [], harness := (true, "270b19e2eb04a48988b163d11cd0147038c38f1961c9794d5321cc81d59b6c75"), looks := true }, kinds := [], alts := [], laidByText := true, laidKinds := [.data, .data, .data], laidTests := true, laidLooks := .later }
def RaceSyncUptoCardSaid : Prop := Claim7.holds Tryd.pinned (.plain (OpenSpec.upto raceSyncSpec)) raceSyncUptoCard
end Rows
end Go.Proofs.YthggmiiipochiaaDoor
