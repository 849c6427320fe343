/-
  DERIVED. GIVEN WITH THE SEED: THE CARDS: each row of YtdddpbmcoimgdaaGreatDoorRows.lean that lists a variable, with what it lists TIED to the program's text (the seventh form; the later family's looks); each row that meets fmt, with fmt's text TOLD by the authors' own Lean function (tested against real Go, not proved from fmt's source: count such statements apart). THE CARD IS WHAT COUNTS. Prove the row's statement (the work); the ties are given (YtdddpbmcoimgdaaGreatDoorTie.lean); close each card by the builder's one call (the guide's Derived/Test/ToyasCard.lean, 'card_holds'). Laid BY PROGRAM, IN A SANDBOX (cutbox-door.mjs). By AI agents, Wed Nov 11 2026. No macro, syntax, notation, axiom, sorry.
-/
import Derived.Test.YtdddpbmcoimgdaaGreatDoorRows
import GoSem.ClaimSeven
namespace Go.Proofs.YtdddpbmcoimgdaaGreatDoor
namespace Rows

/-- THE TIED CARD OF 'belatedlaw14.CorePlays'. -/
def corePlaysCard : Claim7 := { stood := { row := corePlaysRow, standIns := [], harness := (true, "b127fd35cc8393070ca2305a2e908d867bb69753376ec74e21f66be69781b9f4"), looks := true }, kinds := [], alts := [], laidByText := true, laidKinds := [.data, .data, .data, .sentinel, .sentinel, .listed, .data], laidTests := true, laidLooks := .later }
def CorePlaysCardSaid : Prop := Claim7.holds Tryz.pinned (.plain (OpenSpec.ofChange corePlaysSpec)) corePlaysCard

/-- THE TIED CARD OF 'belatedlaw14.CoreLocal'. -/
def coreLocalCard : Claim7 := { stood := { row := coreLocalRow, standIns := [], harness := (true, "b127fd35cc8393070ca2305a2e908d867bb69753376ec74e21f66be69781b9f4"), looks := true }, kinds := [], alts := [], laidByText := true, laidKinds := [.data, .data, .data, .sentinel, .sentinel, .listed, .data], laidTests := true, laidLooks := .later }
def CoreLocalCardSaid : Prop := Claim7.holds Tryz.pinned (.plain (OpenSpec.ofChange coreLocalSpec)) coreLocalCard

/-- THE TIED CARD OF 'belatedlaw14.CoreCopies'. -/
def coreCopiesCard : Claim7 := { stood := { row := coreCopiesRow, standIns := [], harness := (true, "b127fd35cc8393070ca2305a2e908d867bb69753376ec74e21f66be69781b9f4"), looks := true }, kinds := [], alts := [], laidByText := true, laidKinds := [.data, .data, .data, .sentinel, .sentinel, .listed, .data], laidTests := true, laidLooks := .later }
def CoreCopiesCardSaid : Prop := Claim7.holds Tryz.pinned (.plain (OpenSpec.ofChange coreCopiesSpec)) coreCopiesCard

/-- THE TIED CARD OF 'belatedlaw15.ScPlays'. -/
def scPlaysCard : Claim7 := { stood := { row := scPlaysRow, standIns := [], harness := (true, "b127fd35cc8393070ca2305a2e908d867bb69753376ec74e21f66be69781b9f4"), looks := true }, kinds := [], alts := [], laidByText := true, laidKinds := [.data, .data, .data, .sentinel, .sentinel, .listed, .data], laidTests := true, laidLooks := .later }
def ScPlaysCardSaid : Prop := Claim7.holds Tryz.pinned (.plain (OpenSpec.ofChange scPlaysSpec)) scPlaysCard

/-- THE TIED CARD OF 'belatedlaw16.TsoBuffers'. -/
def tsoBuffersCard : Claim7 := { stood := { row := tsoBuffersRow, standIns := [], harness := (true, "b127fd35cc8393070ca2305a2e908d867bb69753376ec74e21f66be69781b9f4"), looks := true }, kinds := [], alts := [], laidByText := true, laidKinds := [.data, .data, .data, .sentinel, .sentinel, .listed, .data], laidTests := true, laidLooks := .later }
def TsoBuffersCardSaid : Prop := Claim7.holds Tryz.pinned (.plain (OpenSpec.ofChange tsoBuffersSpec)) tsoBuffersCard

/-- THE TIED CARD OF 'belatedlaw16.TsoPlays'. -/
def tsoPlaysCard : Claim7 := { stood := { row := tsoPlaysRow, standIns := [], harness := (true, "b127fd35cc8393070ca2305a2e908d867bb69753376ec74e21f66be69781b9f4"), looks := true }, kinds := [], alts := [], laidByText := true, laidKinds := [.data, .data, .data, .sentinel, .sentinel, .listed, .data], laidTests := true, laidLooks := .later }
def TsoPlaysCardSaid : Prop := Claim7.holds Tryz.pinned (.plain (OpenSpec.ofChange tsoPlaysSpec)) tsoPlaysCard

/-- THE SECOND FORM's CARD OF 'belatedlaw14.CorePlays'. -/
def corePlaysUptoCard : Claim7 := { stood := { row := corePlaysUptoRow, standIns := [], harness := (true, "b127fd35cc8393070ca2305a2e908d867bb69753376ec74e21f66be69781b9f4"), looks := true }, kinds := [], alts := [], laidByText := true, laidKinds := [.data, .data, .data, .sentinel, .sentinel, .listed, .data], laidTests := true, laidLooks := .later }
def CorePlaysUptoCardSaid : Prop := Claim7.holds Tryz.pinned (.plain (OpenSpec.upto corePlaysSpec)) corePlaysUptoCard

/-- THE SECOND FORM's CARD OF 'belatedlaw14.CoreLocal'. -/
def coreLocalUptoCard : Claim7 := { stood := { row := coreLocalUptoRow, standIns := [], harness := (true, "b127fd35cc8393070ca2305a2e908d867bb69753376ec74e21f66be69781b9f4"), looks := true }, kinds := [], alts := [], laidByText := true, laidKinds := [.data, .data, .data, .sentinel, .sentinel, .listed, .data], laidTests := true, laidLooks := .later }
def CoreLocalUptoCardSaid : Prop := Claim7.holds Tryz.pinned (.plain (OpenSpec.upto coreLocalSpec)) coreLocalUptoCard

/-- THE SECOND FORM's CARD OF 'belatedlaw14.CoreCopies'. -/
def coreCopiesUptoCard : Claim7 := { stood := { row := coreCopiesUptoRow, standIns := [], harness := (true, "b127fd35cc8393070ca2305a2e908d867bb69753376ec74e21f66be69781b9f4"), looks := true }, kinds := [], alts := [], laidByText := true, laidKinds := [.data, .data, .data, .sentinel, .sentinel, .listed, .data], laidTests := true, laidLooks := .later }
def CoreCopiesUptoCardSaid : Prop := Claim7.holds Tryz.pinned (.plain (OpenSpec.upto coreCopiesSpec)) coreCopiesUptoCard

/-- THE SECOND FORM's CARD OF 'belatedlaw15.ScPlays'. -/
def scPlaysUptoCard : Claim7 := { stood := { row := scPlaysUptoRow, standIns := [], harness := (true, "b127fd35cc8393070ca2305a2e908d867bb69753376ec74e21f66be69781b9f4"), looks := true }, kinds := [], alts := [], laidByText := true, laidKinds := [.data, .data, .data, .sentinel, .sentinel, .listed, .data], laidTests := true, laidLooks := .later }
def ScPlaysUptoCardSaid : Prop := Claim7.holds Tryz.pinned (.plain (OpenSpec.upto scPlaysSpec)) scPlaysUptoCard

/-- THE SECOND FORM's CARD OF 'belatedlaw16.TsoBuffers'. -/
def tsoBuffersUptoCard : Claim7 := { stood := { row := tsoBuffersUptoRow, standIns := [], harness := (true, "b127fd35cc8393070ca2305a2e908d867bb69753376ec74e21f66be69781b9f4"), looks := true }, kinds := [], alts := [], laidByText := true, laidKinds := [.data, .data, .data, .sentinel, .sentinel, .listed, .data], laidTests := true, laidLooks := .later }
def TsoBuffersUptoCardSaid : Prop := Claim7.holds Tryz.pinned (.plain (OpenSpec.upto tsoBuffersSpec)) tsoBuffersUptoCard

/-- THE SECOND FORM's CARD OF 'belatedlaw16.TsoPlays'. -/
def tsoPlaysUptoCard : Claim7 := { stood := { row := tsoPlaysUptoRow, standIns := [], harness := (true, "b127fd35cc8393070ca2305a2e908d867bb69753376ec74e21f66be69781b9f4"), looks := true }, kinds := [], alts := [], laidByText := true, laidKinds := [.data, .data, .data, .sentinel, .sentinel, .listed, .data], laidTests := true, laidLooks := .later }
def TsoPlaysUptoCardSaid : Prop := Claim7.holds Tryz.pinned (.plain (OpenSpec.upto tsoPlaysSpec)) tsoPlaysUptoCard
end Rows
end Go.Proofs.YtdddpbmcoimgdaaGreatDoor
