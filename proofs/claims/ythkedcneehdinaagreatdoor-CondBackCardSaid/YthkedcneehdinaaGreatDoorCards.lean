/-
  DERIVED. GIVEN WITH THE SEED: THE CARDS: each row of YthkedcneehdinaaGreatDoorRows.lean that lists a variable, with what it lists TIED to the program's text (the seventh form; the later family's looks); each row that meets fmt, with fmt's text TOLD by the authors' own Lean function (tested against real Go, not proved from fmt's source: count such statements apart). THE CARD IS WHAT COUNTS. Prove the row's statement (the work); the ties are given (YthkedcneehdinaaGreatDoorTie.lean); close each card by the builder's one call (the guide's Derived/Test/ToyasCard.lean, 'card_holds'). Laid BY PROGRAM, IN A SANDBOX (cutbox-door.mjs). By AI agents, Wed Nov 11 2026. No macro, syntax, notation, axiom, sorry.
-/
import Derived.Test.YthkedcneehdinaaGreatDoorRows
import GoSem.ClaimSeven
namespace Go.Proofs.YthkedcneehdinaaGreatDoor
namespace Rows

/-- THE TIED CARD OF 'belatedlaw5.X86Back'. -/
def x86BackCard : Claim7 := { stood := { row := x86BackRow, standIns := [], harness := (true, "ee5e4f0b19a504e36959d0abf6e8593140e78c9cabcc708e7bd1f2ba571561a3"), looks := true }, kinds := [], alts := [], laidByText := true, laidKinds := [.data, .data, .data, .sentinel, .sentinel, .listed, .data], laidTests := true, laidLooks := .later }
def X86BackCardSaid : Prop := Claim7.holds Tryz.pinned (.plain (OpenSpec.ofChange x86BackSpec)) x86BackCard

/-- THE TIED CARD OF 'belatedlaw6.RiscvPrints'. -/
def riscvPrintsCard : Claim7 := { stood := { row := riscvPrintsRow, standIns := [], harness := (true, "ee5e4f0b19a504e36959d0abf6e8593140e78c9cabcc708e7bd1f2ba571561a3"), looks := true }, kinds := [], alts := [], laidByText := true, laidKinds := [.data, .data, .data, .sentinel, .sentinel, .listed, .data], laidTests := true, laidLooks := .later }
def RiscvPrintsCardSaid : Prop := Claim7.holds Tryz.pinned (.plain (OpenSpec.ofChange riscvPrintsSpec)) riscvPrintsCard

/-- THE TIED CARD OF 'belatedlaw6.RiscvBack'. -/
def riscvBackCard : Claim7 := { stood := { row := riscvBackRow, standIns := [], harness := (true, "ee5e4f0b19a504e36959d0abf6e8593140e78c9cabcc708e7bd1f2ba571561a3"), looks := true }, kinds := [], alts := [], laidByText := true, laidKinds := [.data, .data, .data, .sentinel, .sentinel, .listed, .data], laidTests := true, laidLooks := .later }
def RiscvBackCardSaid : Prop := Claim7.holds Tryz.pinned (.plain (OpenSpec.ofChange riscvBackSpec)) riscvBackCard

/-- THE TIED CARD OF 'belatedlaw7.ArmParses'. -/
def armParsesCard : Claim7 := { stood := { row := armParsesRow, standIns := [], harness := (true, "ee5e4f0b19a504e36959d0abf6e8593140e78c9cabcc708e7bd1f2ba571561a3"), looks := true }, kinds := [], alts := [], laidByText := true, laidKinds := [.data, .data, .data, .sentinel, .sentinel, .listed, .data], laidTests := true, laidLooks := .later }
def ArmParsesCardSaid : Prop := Claim7.holds Tryz.pinned (.plain (OpenSpec.ofChange armParsesSpec)) armParsesCard

/-- THE TIED CARD OF 'belatedlaw7.ArmPrints'. -/
def armPrintsCard : Claim7 := { stood := { row := armPrintsRow, standIns := [], harness := (true, "ee5e4f0b19a504e36959d0abf6e8593140e78c9cabcc708e7bd1f2ba571561a3"), looks := true }, kinds := [], alts := [], laidByText := true, laidKinds := [.data, .data, .data, .sentinel, .sentinel, .listed, .data], laidTests := true, laidLooks := .later }
def ArmPrintsCardSaid : Prop := Claim7.holds Tryz.pinned (.plain (OpenSpec.ofChange armPrintsSpec)) armPrintsCard

/-- THE TIED CARD OF 'belatedlaw7.ArmBack'. -/
def armBackCard : Claim7 := { stood := { row := armBackRow, standIns := [], harness := (true, "ee5e4f0b19a504e36959d0abf6e8593140e78c9cabcc708e7bd1f2ba571561a3"), looks := true }, kinds := [], alts := [], laidByText := true, laidKinds := [.data, .data, .data, .sentinel, .sentinel, .listed, .data], laidTests := true, laidLooks := .later }
def ArmBackCardSaid : Prop := Claim7.holds Tryz.pinned (.plain (OpenSpec.ofChange armBackSpec)) armBackCard

/-- THE TIED CARD OF 'belatedlaw8.CondParses'. -/
def condParsesCard : Claim7 := { stood := { row := condParsesRow, standIns := [], harness := (true, "ee5e4f0b19a504e36959d0abf6e8593140e78c9cabcc708e7bd1f2ba571561a3"), looks := true }, kinds := [], alts := [], laidByText := true, laidKinds := [.data, .data, .data, .sentinel, .sentinel, .listed, .data], laidTests := true, laidLooks := .later }
def CondParsesCardSaid : Prop := Claim7.holds Tryz.pinned (.plain (OpenSpec.ofChange condParsesSpec)) condParsesCard

/-- THE TIED CARD OF 'belatedlaw8.CondBack'. -/
def condBackCard : Claim7 := { stood := { row := condBackRow, standIns := [], harness := (true, "ee5e4f0b19a504e36959d0abf6e8593140e78c9cabcc708e7bd1f2ba571561a3"), looks := true }, kinds := [], alts := [], laidByText := true, laidKinds := [.data, .data, .data, .sentinel, .sentinel, .listed, .data], laidTests := true, laidLooks := .later }
def CondBackCardSaid : Prop := Claim7.holds Tryz.pinned (.plain (OpenSpec.ofChange condBackSpec)) condBackCard

/-- THE SECOND FORM's CARD OF 'belatedlaw5.X86Back'. -/
def x86BackUptoCard : Claim7 := { stood := { row := x86BackUptoRow, standIns := [], harness := (true, "ee5e4f0b19a504e36959d0abf6e8593140e78c9cabcc708e7bd1f2ba571561a3"), looks := true }, kinds := [], alts := [], laidByText := true, laidKinds := [.data, .data, .data, .sentinel, .sentinel, .listed, .data], laidTests := true, laidLooks := .later }
def X86BackUptoCardSaid : Prop := Claim7.holds Tryz.pinned (.plain (OpenSpec.upto x86BackSpec)) x86BackUptoCard

/-- THE SECOND FORM's CARD OF 'belatedlaw6.RiscvPrints'. -/
def riscvPrintsUptoCard : Claim7 := { stood := { row := riscvPrintsUptoRow, standIns := [], harness := (true, "ee5e4f0b19a504e36959d0abf6e8593140e78c9cabcc708e7bd1f2ba571561a3"), looks := true }, kinds := [], alts := [], laidByText := true, laidKinds := [.data, .data, .data, .sentinel, .sentinel, .listed, .data], laidTests := true, laidLooks := .later }
def RiscvPrintsUptoCardSaid : Prop := Claim7.holds Tryz.pinned (.plain (OpenSpec.upto riscvPrintsSpec)) riscvPrintsUptoCard

/-- THE SECOND FORM's CARD OF 'belatedlaw6.RiscvBack'. -/
def riscvBackUptoCard : Claim7 := { stood := { row := riscvBackUptoRow, standIns := [], harness := (true, "ee5e4f0b19a504e36959d0abf6e8593140e78c9cabcc708e7bd1f2ba571561a3"), looks := true }, kinds := [], alts := [], laidByText := true, laidKinds := [.data, .data, .data, .sentinel, .sentinel, .listed, .data], laidTests := true, laidLooks := .later }
def RiscvBackUptoCardSaid : Prop := Claim7.holds Tryz.pinned (.plain (OpenSpec.upto riscvBackSpec)) riscvBackUptoCard

/-- THE SECOND FORM's CARD OF 'belatedlaw7.ArmParses'. -/
def armParsesUptoCard : Claim7 := { stood := { row := armParsesUptoRow, standIns := [], harness := (true, "ee5e4f0b19a504e36959d0abf6e8593140e78c9cabcc708e7bd1f2ba571561a3"), looks := true }, kinds := [], alts := [], laidByText := true, laidKinds := [.data, .data, .data, .sentinel, .sentinel, .listed, .data], laidTests := true, laidLooks := .later }
def ArmParsesUptoCardSaid : Prop := Claim7.holds Tryz.pinned (.plain (OpenSpec.upto armParsesSpec)) armParsesUptoCard

/-- THE SECOND FORM's CARD OF 'belatedlaw7.ArmPrints'. -/
def armPrintsUptoCard : Claim7 := { stood := { row := armPrintsUptoRow, standIns := [], harness := (true, "ee5e4f0b19a504e36959d0abf6e8593140e78c9cabcc708e7bd1f2ba571561a3"), looks := true }, kinds := [], alts := [], laidByText := true, laidKinds := [.data, .data, .data, .sentinel, .sentinel, .listed, .data], laidTests := true, laidLooks := .later }
def ArmPrintsUptoCardSaid : Prop := Claim7.holds Tryz.pinned (.plain (OpenSpec.upto armPrintsSpec)) armPrintsUptoCard

/-- THE SECOND FORM's CARD OF 'belatedlaw7.ArmBack'. -/
def armBackUptoCard : Claim7 := { stood := { row := armBackUptoRow, standIns := [], harness := (true, "ee5e4f0b19a504e36959d0abf6e8593140e78c9cabcc708e7bd1f2ba571561a3"), looks := true }, kinds := [], alts := [], laidByText := true, laidKinds := [.data, .data, .data, .sentinel, .sentinel, .listed, .data], laidTests := true, laidLooks := .later }
def ArmBackUptoCardSaid : Prop := Claim7.holds Tryz.pinned (.plain (OpenSpec.upto armBackSpec)) armBackUptoCard

/-- THE SECOND FORM's CARD OF 'belatedlaw8.CondParses'. -/
def condParsesUptoCard : Claim7 := { stood := { row := condParsesUptoRow, standIns := [], harness := (true, "ee5e4f0b19a504e36959d0abf6e8593140e78c9cabcc708e7bd1f2ba571561a3"), looks := true }, kinds := [], alts := [], laidByText := true, laidKinds := [.data, .data, .data, .sentinel, .sentinel, .listed, .data], laidTests := true, laidLooks := .later }
def CondParsesUptoCardSaid : Prop := Claim7.holds Tryz.pinned (.plain (OpenSpec.upto condParsesSpec)) condParsesUptoCard

/-- THE SECOND FORM's CARD OF 'belatedlaw8.CondBack'. -/
def condBackUptoCard : Claim7 := { stood := { row := condBackUptoRow, standIns := [], harness := (true, "ee5e4f0b19a504e36959d0abf6e8593140e78c9cabcc708e7bd1f2ba571561a3"), looks := true }, kinds := [], alts := [], laidByText := true, laidKinds := [.data, .data, .data, .sentinel, .sentinel, .listed, .data], laidTests := true, laidLooks := .later }
def CondBackUptoCardSaid : Prop := Claim7.holds Tryz.pinned (.plain (OpenSpec.upto condBackSpec)) condBackUptoCard
end Rows
end Go.Proofs.YthkedcneehdinaaGreatDoor
