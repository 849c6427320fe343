/-
  DERIVED. GIVEN WITH THE SEED: THE CARDS: each row of YtlgjjklikbpcoaaGreatDoorRows.lean that lists a variable, with what it lists TIED to the program's text (the seventh form; the later family's looks); each row that meets fmt, with fmt's text TOLD by the authors' own Lean function (tested against real Go, not proved from fmt's source: count such statements apart). THE CARD IS WHAT COUNTS. Prove the row's statement (the work); the ties are given (YtlgjjklikbpcoaaGreatDoorTie.lean); close each card by the builder's one call (the guide's Derived/Test/ToyasCard.lean, 'card_holds'). Laid BY PROGRAM, IN A SANDBOX (cutbox-door.mjs). By AI agents, Wed Nov 11 2026. No macro, syntax, notation, axiom, sorry.
-/
import Derived.Test.YtlgjjklikbpcoaaGreatDoorRows
import GoSem.ClaimSeven
namespace Go.Proofs.YtlgjjklikbpcoaaGreatDoor
namespace Rows

/-- THE TIED CARD OF 'belatedlaw5.X86Parses'. -/
def x86ParsesCard : Claim7 := { stood := { row := x86ParsesRow, standIns := [], harness := (true, "d30bc18a96f78f06312784778573d1bd57ec19849199987212d56ebc9f648bfb"), looks := true }, kinds := [], alts := [], laidByText := true, laidKinds := [.data, .data, .data, .sentinel, .sentinel, .listed, .data], laidTests := true, laidLooks := .later }
def X86ParsesCardSaid : Prop := Claim7.holds Tryz.pinned (.plain (OpenSpec.ofChange x86ParsesSpec)) x86ParsesCard

/-- THE TIED CARD OF 'belatedlaw5.X86Prints'. -/
def x86PrintsCard : Claim7 := { stood := { row := x86PrintsRow, standIns := [], harness := (true, "d30bc18a96f78f06312784778573d1bd57ec19849199987212d56ebc9f648bfb"), looks := true }, kinds := [], alts := [], laidByText := true, laidKinds := [.data, .data, .data, .sentinel, .sentinel, .listed, .data], laidTests := true, laidLooks := .later }
def X86PrintsCardSaid : Prop := Claim7.holds Tryz.pinned (.plain (OpenSpec.ofChange x86PrintsSpec)) x86PrintsCard

/-- THE TIED CARD OF 'belatedlaw5.X86Back'. -/
def x86BackCard : Claim7 := { stood := { row := x86BackRow, standIns := [], harness := (true, "d30bc18a96f78f06312784778573d1bd57ec19849199987212d56ebc9f648bfb"), looks := true }, kinds := [], alts := [], laidByText := true, laidKinds := [.data, .data, .data, .sentinel, .sentinel, .listed, .data], laidTests := true, laidLooks := .later }
def X86BackCardSaid : Prop := Claim7.holds Tryz.pinned (.plain (OpenSpec.ofChange x86BackSpec)) x86BackCard

/-- THE TIED CARD OF 'belatedlaw6.RiscvParses'. -/
def riscvParsesCard : Claim7 := { stood := { row := riscvParsesRow, standIns := [], harness := (true, "d30bc18a96f78f06312784778573d1bd57ec19849199987212d56ebc9f648bfb"), looks := true }, kinds := [], alts := [], laidByText := true, laidKinds := [.data, .data, .data, .sentinel, .sentinel, .listed, .data], laidTests := true, laidLooks := .later }
def RiscvParsesCardSaid : Prop := Claim7.holds Tryz.pinned (.plain (OpenSpec.ofChange riscvParsesSpec)) riscvParsesCard

/-- THE TIED CARD OF 'belatedlaw6.RiscvPrints'. -/
def riscvPrintsCard : Claim7 := { stood := { row := riscvPrintsRow, standIns := [], harness := (true, "d30bc18a96f78f06312784778573d1bd57ec19849199987212d56ebc9f648bfb"), looks := true }, kinds := [], alts := [], laidByText := true, laidKinds := [.data, .data, .data, .sentinel, .sentinel, .listed, .data], laidTests := true, laidLooks := .later }
def RiscvPrintsCardSaid : Prop := Claim7.holds Tryz.pinned (.plain (OpenSpec.ofChange riscvPrintsSpec)) riscvPrintsCard

/-- THE TIED CARD OF 'belatedlaw6.RiscvBack'. -/
def riscvBackCard : Claim7 := { stood := { row := riscvBackRow, standIns := [], harness := (true, "d30bc18a96f78f06312784778573d1bd57ec19849199987212d56ebc9f648bfb"), looks := true }, kinds := [], alts := [], laidByText := true, laidKinds := [.data, .data, .data, .sentinel, .sentinel, .listed, .data], laidTests := true, laidLooks := .later }
def RiscvBackCardSaid : Prop := Claim7.holds Tryz.pinned (.plain (OpenSpec.ofChange riscvBackSpec)) riscvBackCard

/-- THE TIED CARD OF 'belatedlaw7.ArmParses'. -/
def armParsesCard : Claim7 := { stood := { row := armParsesRow, standIns := [], harness := (true, "d30bc18a96f78f06312784778573d1bd57ec19849199987212d56ebc9f648bfb"), looks := true }, kinds := [], alts := [], laidByText := true, laidKinds := [.data, .data, .data, .sentinel, .sentinel, .listed, .data], laidTests := true, laidLooks := .later }
def ArmParsesCardSaid : Prop := Claim7.holds Tryz.pinned (.plain (OpenSpec.ofChange armParsesSpec)) armParsesCard

/-- THE TIED CARD OF 'belatedlaw7.ArmPrints'. -/
def armPrintsCard : Claim7 := { stood := { row := armPrintsRow, standIns := [], harness := (true, "d30bc18a96f78f06312784778573d1bd57ec19849199987212d56ebc9f648bfb"), looks := true }, kinds := [], alts := [], laidByText := true, laidKinds := [.data, .data, .data, .sentinel, .sentinel, .listed, .data], laidTests := true, laidLooks := .later }
def ArmPrintsCardSaid : Prop := Claim7.holds Tryz.pinned (.plain (OpenSpec.ofChange armPrintsSpec)) armPrintsCard

/-- THE TIED CARD OF 'belatedlaw7.ArmBack'. -/
def armBackCard : Claim7 := { stood := { row := armBackRow, standIns := [], harness := (true, "d30bc18a96f78f06312784778573d1bd57ec19849199987212d56ebc9f648bfb"), looks := true }, kinds := [], alts := [], laidByText := true, laidKinds := [.data, .data, .data, .sentinel, .sentinel, .listed, .data], laidTests := true, laidLooks := .later }
def ArmBackCardSaid : Prop := Claim7.holds Tryz.pinned (.plain (OpenSpec.ofChange armBackSpec)) armBackCard

/-- THE TIED CARD OF 'belatedlaw8.CondParses'. -/
def condParsesCard : Claim7 := { stood := { row := condParsesRow, standIns := [], harness := (true, "d30bc18a96f78f06312784778573d1bd57ec19849199987212d56ebc9f648bfb"), looks := true }, kinds := [], alts := [], laidByText := true, laidKinds := [.data, .data, .data, .sentinel, .sentinel, .listed, .data], laidTests := true, laidLooks := .later }
def CondParsesCardSaid : Prop := Claim7.holds Tryz.pinned (.plain (OpenSpec.ofChange condParsesSpec)) condParsesCard

/-- THE TIED CARD OF 'belatedlaw8.CondBack'. -/
def condBackCard : Claim7 := { stood := { row := condBackRow, standIns := [], harness := (true, "d30bc18a96f78f06312784778573d1bd57ec19849199987212d56ebc9f648bfb"), looks := true }, kinds := [], alts := [], laidByText := true, laidKinds := [.data, .data, .data, .sentinel, .sentinel, .listed, .data], laidTests := true, laidLooks := .later }
def CondBackCardSaid : Prop := Claim7.holds Tryz.pinned (.plain (OpenSpec.ofChange condBackSpec)) condBackCard

/-- THE TIED CARD OF 'belatedlaw9.LitmusPrints'. -/
def litmusPrintsCard : Claim7 := { stood := { row := litmusPrintsRow, standIns := [], harness := (true, "d30bc18a96f78f06312784778573d1bd57ec19849199987212d56ebc9f648bfb"), looks := true }, kinds := [], alts := [], laidByText := true, laidKinds := [.data, .data, .data, .sentinel, .sentinel, .listed, .data], laidTests := true, laidLooks := .later }
def LitmusPrintsCardSaid : Prop := Claim7.holds Tryz.pinned (.plain (OpenSpec.ofChange litmusPrintsSpec)) litmusPrintsCard

/-- THE TIED CARD OF 'belatedlaw9.LitmusBack'. -/
def litmusBackCard : Claim7 := { stood := { row := litmusBackRow, standIns := [], harness := (true, "d30bc18a96f78f06312784778573d1bd57ec19849199987212d56ebc9f648bfb"), looks := true }, kinds := [], alts := [], laidByText := true, laidKinds := [.data, .data, .data, .sentinel, .sentinel, .listed, .data], laidTests := true, laidLooks := .later }
def LitmusBackCardSaid : Prop := Claim7.holds Tryz.pinned (.plain (OpenSpec.ofChange litmusBackSpec)) litmusBackCard

/-- THE TIED CARD OF 'belatedlaw9.LitmusForms'. -/
def litmusFormsCard : Claim7 := { stood := { row := litmusFormsRow, standIns := [], harness := (true, "d30bc18a96f78f06312784778573d1bd57ec19849199987212d56ebc9f648bfb"), looks := true }, kinds := [], alts := [], laidByText := true, laidKinds := [.data, .data, .data, .sentinel, .sentinel, .listed, .data], laidTests := true, laidLooks := .later }
def LitmusFormsCardSaid : Prop := Claim7.holds Tryz.pinned (.plain (OpenSpec.ofChange litmusFormsSpec)) litmusFormsCard

/-- THE TIED CARD OF 'belatedlaw9.LitmusBlanks'. -/
def litmusBlanksCard : Claim7 := { stood := { row := litmusBlanksRow, standIns := [], harness := (true, "d30bc18a96f78f06312784778573d1bd57ec19849199987212d56ebc9f648bfb"), looks := true }, kinds := [], alts := [], laidByText := true, laidKinds := [.data, .data, .data, .sentinel, .sentinel, .listed, .data], laidTests := true, laidLooks := .later }
def LitmusBlanksCardSaid : Prop := Claim7.holds Tryz.pinned (.plain (OpenSpec.ofChange litmusBlanksSpec)) litmusBlanksCard

/-- THE TIED CARD OF 'belatedlaw9.LitmusLines'. -/
def litmusLinesCard : Claim7 := { stood := { row := litmusLinesRow, standIns := [], harness := (true, "d30bc18a96f78f06312784778573d1bd57ec19849199987212d56ebc9f648bfb"), looks := true }, kinds := [], alts := [], laidByText := true, laidKinds := [.data, .data, .data, .sentinel, .sentinel, .listed, .data], laidTests := true, laidLooks := .later }
def LitmusLinesCardSaid : Prop := Claim7.holds Tryz.pinned (.plain (OpenSpec.ofChange litmusLinesSpec)) litmusLinesCard

/-- THE SECOND FORM's CARD OF 'belatedlaw5.X86Parses'. -/
def x86ParsesUptoCard : Claim7 := { stood := { row := x86ParsesUptoRow, standIns := [], harness := (true, "d30bc18a96f78f06312784778573d1bd57ec19849199987212d56ebc9f648bfb"), looks := true }, kinds := [], alts := [], laidByText := true, laidKinds := [.data, .data, .data, .sentinel, .sentinel, .listed, .data], laidTests := true, laidLooks := .later }
def X86ParsesUptoCardSaid : Prop := Claim7.holds Tryz.pinned (.plain (OpenSpec.upto x86ParsesSpec)) x86ParsesUptoCard

/-- THE SECOND FORM's CARD OF 'belatedlaw5.X86Prints'. -/
def x86PrintsUptoCard : Claim7 := { stood := { row := x86PrintsUptoRow, standIns := [], harness := (true, "d30bc18a96f78f06312784778573d1bd57ec19849199987212d56ebc9f648bfb"), looks := true }, kinds := [], alts := [], laidByText := true, laidKinds := [.data, .data, .data, .sentinel, .sentinel, .listed, .data], laidTests := true, laidLooks := .later }
def X86PrintsUptoCardSaid : Prop := Claim7.holds Tryz.pinned (.plain (OpenSpec.upto x86PrintsSpec)) x86PrintsUptoCard

/-- THE SECOND FORM's CARD OF 'belatedlaw5.X86Back'. -/
def x86BackUptoCard : Claim7 := { stood := { row := x86BackUptoRow, standIns := [], harness := (true, "d30bc18a96f78f06312784778573d1bd57ec19849199987212d56ebc9f648bfb"), looks := true }, kinds := [], alts := [], laidByText := true, laidKinds := [.data, .data, .data, .sentinel, .sentinel, .listed, .data], laidTests := true, laidLooks := .later }
def X86BackUptoCardSaid : Prop := Claim7.holds Tryz.pinned (.plain (OpenSpec.upto x86BackSpec)) x86BackUptoCard

/-- THE SECOND FORM's CARD OF 'belatedlaw6.RiscvParses'. -/
def riscvParsesUptoCard : Claim7 := { stood := { row := riscvParsesUptoRow, standIns := [], harness := (true, "d30bc18a96f78f06312784778573d1bd57ec19849199987212d56ebc9f648bfb"), looks := true }, kinds := [], alts := [], laidByText := true, laidKinds := [.data, .data, .data, .sentinel, .sentinel, .listed, .data], laidTests := true, laidLooks := .later }
def RiscvParsesUptoCardSaid : Prop := Claim7.holds Tryz.pinned (.plain (OpenSpec.upto riscvParsesSpec)) riscvParsesUptoCard

/-- THE SECOND FORM's CARD OF 'belatedlaw6.RiscvPrints'. -/
def riscvPrintsUptoCard : Claim7 := { stood := { row := riscvPrintsUptoRow, standIns := [], harness := (true, "d30bc18a96f78f06312784778573d1bd57ec19849199987212d56ebc9f648bfb"), looks := true }, kinds := [], alts := [], laidByText := true, laidKinds := [.data, .data, .data, .sentinel, .sentinel, .listed, .data], laidTests := true, laidLooks := .later }
def RiscvPrintsUptoCardSaid : Prop := Claim7.holds Tryz.pinned (.plain (OpenSpec.upto riscvPrintsSpec)) riscvPrintsUptoCard

/-- THE SECOND FORM's CARD OF 'belatedlaw6.RiscvBack'. -/
def riscvBackUptoCard : Claim7 := { stood := { row := riscvBackUptoRow, standIns := [], harness := (true, "d30bc18a96f78f06312784778573d1bd57ec19849199987212d56ebc9f648bfb"), looks := true }, kinds := [], alts := [], laidByText := true, laidKinds := [.data, .data, .data, .sentinel, .sentinel, .listed, .data], laidTests := true, laidLooks := .later }
def RiscvBackUptoCardSaid : Prop := Claim7.holds Tryz.pinned (.plain (OpenSpec.upto riscvBackSpec)) riscvBackUptoCard

/-- THE SECOND FORM's CARD OF 'belatedlaw7.ArmParses'. -/
def armParsesUptoCard : Claim7 := { stood := { row := armParsesUptoRow, standIns := [], harness := (true, "d30bc18a96f78f06312784778573d1bd57ec19849199987212d56ebc9f648bfb"), looks := true }, kinds := [], alts := [], laidByText := true, laidKinds := [.data, .data, .data, .sentinel, .sentinel, .listed, .data], laidTests := true, laidLooks := .later }
def ArmParsesUptoCardSaid : Prop := Claim7.holds Tryz.pinned (.plain (OpenSpec.upto armParsesSpec)) armParsesUptoCard

/-- THE SECOND FORM's CARD OF 'belatedlaw7.ArmPrints'. -/
def armPrintsUptoCard : Claim7 := { stood := { row := armPrintsUptoRow, standIns := [], harness := (true, "d30bc18a96f78f06312784778573d1bd57ec19849199987212d56ebc9f648bfb"), looks := true }, kinds := [], alts := [], laidByText := true, laidKinds := [.data, .data, .data, .sentinel, .sentinel, .listed, .data], laidTests := true, laidLooks := .later }
def ArmPrintsUptoCardSaid : Prop := Claim7.holds Tryz.pinned (.plain (OpenSpec.upto armPrintsSpec)) armPrintsUptoCard

/-- THE SECOND FORM's CARD OF 'belatedlaw7.ArmBack'. -/
def armBackUptoCard : Claim7 := { stood := { row := armBackUptoRow, standIns := [], harness := (true, "d30bc18a96f78f06312784778573d1bd57ec19849199987212d56ebc9f648bfb"), looks := true }, kinds := [], alts := [], laidByText := true, laidKinds := [.data, .data, .data, .sentinel, .sentinel, .listed, .data], laidTests := true, laidLooks := .later }
def ArmBackUptoCardSaid : Prop := Claim7.holds Tryz.pinned (.plain (OpenSpec.upto armBackSpec)) armBackUptoCard

/-- THE SECOND FORM's CARD OF 'belatedlaw8.CondParses'. -/
def condParsesUptoCard : Claim7 := { stood := { row := condParsesUptoRow, standIns := [], harness := (true, "d30bc18a96f78f06312784778573d1bd57ec19849199987212d56ebc9f648bfb"), looks := true }, kinds := [], alts := [], laidByText := true, laidKinds := [.data, .data, .data, .sentinel, .sentinel, .listed, .data], laidTests := true, laidLooks := .later }
def CondParsesUptoCardSaid : Prop := Claim7.holds Tryz.pinned (.plain (OpenSpec.upto condParsesSpec)) condParsesUptoCard

/-- THE SECOND FORM's CARD OF 'belatedlaw8.CondBack'. -/
def condBackUptoCard : Claim7 := { stood := { row := condBackUptoRow, standIns := [], harness := (true, "d30bc18a96f78f06312784778573d1bd57ec19849199987212d56ebc9f648bfb"), looks := true }, kinds := [], alts := [], laidByText := true, laidKinds := [.data, .data, .data, .sentinel, .sentinel, .listed, .data], laidTests := true, laidLooks := .later }
def CondBackUptoCardSaid : Prop := Claim7.holds Tryz.pinned (.plain (OpenSpec.upto condBackSpec)) condBackUptoCard

/-- THE SECOND FORM's CARD OF 'belatedlaw9.LitmusPrints'. -/
def litmusPrintsUptoCard : Claim7 := { stood := { row := litmusPrintsUptoRow, standIns := [], harness := (true, "d30bc18a96f78f06312784778573d1bd57ec19849199987212d56ebc9f648bfb"), looks := true }, kinds := [], alts := [], laidByText := true, laidKinds := [.data, .data, .data, .sentinel, .sentinel, .listed, .data], laidTests := true, laidLooks := .later }
def LitmusPrintsUptoCardSaid : Prop := Claim7.holds Tryz.pinned (.plain (OpenSpec.upto litmusPrintsSpec)) litmusPrintsUptoCard

/-- THE SECOND FORM's CARD OF 'belatedlaw9.LitmusBack'. -/
def litmusBackUptoCard : Claim7 := { stood := { row := litmusBackUptoRow, standIns := [], harness := (true, "d30bc18a96f78f06312784778573d1bd57ec19849199987212d56ebc9f648bfb"), looks := true }, kinds := [], alts := [], laidByText := true, laidKinds := [.data, .data, .data, .sentinel, .sentinel, .listed, .data], laidTests := true, laidLooks := .later }
def LitmusBackUptoCardSaid : Prop := Claim7.holds Tryz.pinned (.plain (OpenSpec.upto litmusBackSpec)) litmusBackUptoCard

/-- THE SECOND FORM's CARD OF 'belatedlaw9.LitmusForms'. -/
def litmusFormsUptoCard : Claim7 := { stood := { row := litmusFormsUptoRow, standIns := [], harness := (true, "d30bc18a96f78f06312784778573d1bd57ec19849199987212d56ebc9f648bfb"), looks := true }, kinds := [], alts := [], laidByText := true, laidKinds := [.data, .data, .data, .sentinel, .sentinel, .listed, .data], laidTests := true, laidLooks := .later }
def LitmusFormsUptoCardSaid : Prop := Claim7.holds Tryz.pinned (.plain (OpenSpec.upto litmusFormsSpec)) litmusFormsUptoCard

/-- THE SECOND FORM's CARD OF 'belatedlaw9.LitmusBlanks'. -/
def litmusBlanksUptoCard : Claim7 := { stood := { row := litmusBlanksUptoRow, standIns := [], harness := (true, "d30bc18a96f78f06312784778573d1bd57ec19849199987212d56ebc9f648bfb"), looks := true }, kinds := [], alts := [], laidByText := true, laidKinds := [.data, .data, .data, .sentinel, .sentinel, .listed, .data], laidTests := true, laidLooks := .later }
def LitmusBlanksUptoCardSaid : Prop := Claim7.holds Tryz.pinned (.plain (OpenSpec.upto litmusBlanksSpec)) litmusBlanksUptoCard

/-- THE SECOND FORM's CARD OF 'belatedlaw9.LitmusLines'. -/
def litmusLinesUptoCard : Claim7 := { stood := { row := litmusLinesUptoRow, standIns := [], harness := (true, "d30bc18a96f78f06312784778573d1bd57ec19849199987212d56ebc9f648bfb"), looks := true }, kinds := [], alts := [], laidByText := true, laidKinds := [.data, .data, .data, .sentinel, .sentinel, .listed, .data], laidTests := true, laidLooks := .later }
def LitmusLinesUptoCardSaid : Prop := Claim7.holds Tryz.pinned (.plain (OpenSpec.upto litmusLinesSpec)) litmusLinesUptoCard
end Rows
end Go.Proofs.YtlgjjklikbpcoaaGreatDoor
