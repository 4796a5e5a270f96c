/-
  DERIVED. GIVEN WITH THE SEED: THE CARDS: each row of YtfcgjadfhojogaaDoorRows.lean that lists a variable, with what it lists TIED to the program's text (the seventh form; the later family's looks); each row that meets fmt, with fmt's text TOLD by the authors' own Lean function (tested against real Go, not proved from fmt's source: count such statements apart). THE CARD IS WHAT COUNTS. Prove the row's statement (the work); the ties are given (YtfcgjadfhojogaaDoorTie.lean); close each card by the builder's one call (the guide's Derived/Test/ToyasCard.lean, 'card_holds'). Laid BY PROGRAM, IN A SANDBOX (cutbox-door.mjs). By AI agents, Wed Nov 11 2026. No macro, syntax, notation, axiom, sorry.
-/
import Derived.Test.YtfcgjadfhojogaaDoorRows
import GoSem.ClaimSeven
namespace Go.Proofs.YtfcgjadfhojogaaDoor
namespace Rows

/-- THE TIED CARD OF 'underwoodlaw08.VmStarts'. -/
def vmStartsCard : Claim7 := { stood := { row := vmStartsRow, standIns := [], harness := (true, "c052a3dc6d1c2bd47fc17ba8612a48ac0a70453cdcadd922e840c4290b32e7ec"), looks := true }, kinds := [], alts := [], laidByText := true, laidKinds := [.funcs], laidTests := true, laidLooks := .later }
def VmStartsCardSaid : Prop := Claim7.holds Tryd.pinned (.plain (OpenSpec.ofChange vmStartsSpec)) vmStartsCard

/-- THE TIED CARD OF 'underwoodlaw08.VmStays'. -/
def vmStaysCard : Claim7 := { stood := { row := vmStaysRow, standIns := [], harness := (true, "c052a3dc6d1c2bd47fc17ba8612a48ac0a70453cdcadd922e840c4290b32e7ec"), looks := true }, kinds := [], alts := [], laidByText := true, laidKinds := [.funcs], laidTests := true, laidLooks := .later }
def VmStaysCardSaid : Prop := Claim7.holds Tryd.pinned (.plain (OpenSpec.ofChange vmStaysSpec)) vmStaysCard

/-- THE TIED CARD OF 'underwoodlaw08.VmAgain'. -/
def vmAgainCard : Claim7 := { stood := { row := vmAgainRow, standIns := [], harness := (true, "c052a3dc6d1c2bd47fc17ba8612a48ac0a70453cdcadd922e840c4290b32e7ec"), looks := true }, kinds := [], alts := [], laidByText := true, laidKinds := [.funcs], laidTests := true, laidLooks := .later }
def VmAgainCardSaid : Prop := Claim7.holds Tryd.pinned (.plain (OpenSpec.ofChange vmAgainSpec)) vmAgainCard

/-- THE TIED CARD OF 'underwoodlaw08.VmReckons'. -/
def vmReckonsCard : Claim7 := { stood := { row := vmReckonsRow, standIns := [], harness := (true, "c052a3dc6d1c2bd47fc17ba8612a48ac0a70453cdcadd922e840c4290b32e7ec"), looks := true }, kinds := [], alts := [], laidByText := true, laidKinds := [.funcs], laidTests := true, laidLooks := .later }
def VmReckonsCardSaid : Prop := Claim7.holds Tryd.pinned (.plain (OpenSpec.ofChange vmReckonsSpec)) vmReckonsCard

/-- THE TIED CARD OF 'underwoodlaw08.VmLoops'. -/
def vmLoopsCard : Claim7 := { stood := { row := vmLoopsRow, standIns := [], harness := (true, "c052a3dc6d1c2bd47fc17ba8612a48ac0a70453cdcadd922e840c4290b32e7ec"), looks := true }, kinds := [], alts := [], laidByText := true, laidKinds := [.funcs], laidTests := true, laidLooks := .later }
def VmLoopsCardSaid : Prop := Claim7.holds Tryd.pinned (.plain (OpenSpec.ofChange vmLoopsSpec)) vmLoopsCard

/-- THE TIED CARD OF 'underwoodlaw08.VmCalls'. -/
def vmCallsCard : Claim7 := { stood := { row := vmCallsRow, standIns := [], harness := (true, "c052a3dc6d1c2bd47fc17ba8612a48ac0a70453cdcadd922e840c4290b32e7ec"), looks := true }, kinds := [], alts := [], laidByText := true, laidKinds := [.funcs], laidTests := true, laidLooks := .later }
def VmCallsCardSaid : Prop := Claim7.holds Tryd.pinned (.plain (OpenSpec.ofChange vmCallsSpec)) vmCallsCard

/-- THE TIED CARD OF 'underwoodlaw08.VmFails'. -/
def vmFailsCard : Claim7 := { stood := { row := vmFailsRow, standIns := [], harness := (true, "c052a3dc6d1c2bd47fc17ba8612a48ac0a70453cdcadd922e840c4290b32e7ec"), looks := true }, kinds := [], alts := [], laidByText := true, laidKinds := [.funcs], laidTests := true, laidLooks := .later }
def VmFailsCardSaid : Prop := Claim7.holds Tryd.pinned (.plain (OpenSpec.ofChange vmFailsSpec)) vmFailsCard

/-- THE SECOND FORM's CARD OF 'underwoodlaw08.VmStarts'. -/
def vmStartsUptoCard : Claim7 := { stood := { row := vmStartsUptoRow, standIns := [], harness := (true, "c052a3dc6d1c2bd47fc17ba8612a48ac0a70453cdcadd922e840c4290b32e7ec"), looks := true }, kinds := [], alts := [], laidByText := true, laidKinds := [.funcs], laidTests := true, laidLooks := .later }
def VmStartsUptoCardSaid : Prop := Claim7.holds Tryd.pinned (.plain (OpenSpec.upto vmStartsSpec)) vmStartsUptoCard

/-- THE SECOND FORM's CARD OF 'underwoodlaw08.VmStays'. -/
def vmStaysUptoCard : Claim7 := { stood := { row := vmStaysUptoRow, standIns := [], harness := (true, "c052a3dc6d1c2bd47fc17ba8612a48ac0a70453cdcadd922e840c4290b32e7ec"), looks := true }, kinds := [], alts := [], laidByText := true, laidKinds := [.funcs], laidTests := true, laidLooks := .later }
def VmStaysUptoCardSaid : Prop := Claim7.holds Tryd.pinned (.plain (OpenSpec.upto vmStaysSpec)) vmStaysUptoCard

/-- THE SECOND FORM's CARD OF 'underwoodlaw08.VmAgain'. -/
def vmAgainUptoCard : Claim7 := { stood := { row := vmAgainUptoRow, standIns := [], harness := (true, "c052a3dc6d1c2bd47fc17ba8612a48ac0a70453cdcadd922e840c4290b32e7ec"), looks := true }, kinds := [], alts := [], laidByText := true, laidKinds := [.funcs], laidTests := true, laidLooks := .later }
def VmAgainUptoCardSaid : Prop := Claim7.holds Tryd.pinned (.plain (OpenSpec.upto vmAgainSpec)) vmAgainUptoCard

/-- THE SECOND FORM's CARD OF 'underwoodlaw08.VmReckons'. -/
def vmReckonsUptoCard : Claim7 := { stood := { row := vmReckonsUptoRow, standIns := [], harness := (true, "c052a3dc6d1c2bd47fc17ba8612a48ac0a70453cdcadd922e840c4290b32e7ec"), looks := true }, kinds := [], alts := [], laidByText := true, laidKinds := [.funcs], laidTests := true, laidLooks := .later }
def VmReckonsUptoCardSaid : Prop := Claim7.holds Tryd.pinned (.plain (OpenSpec.upto vmReckonsSpec)) vmReckonsUptoCard

/-- THE SECOND FORM's CARD OF 'underwoodlaw08.VmLoops'. -/
def vmLoopsUptoCard : Claim7 := { stood := { row := vmLoopsUptoRow, standIns := [], harness := (true, "c052a3dc6d1c2bd47fc17ba8612a48ac0a70453cdcadd922e840c4290b32e7ec"), looks := true }, kinds := [], alts := [], laidByText := true, laidKinds := [.funcs], laidTests := true, laidLooks := .later }
def VmLoopsUptoCardSaid : Prop := Claim7.holds Tryd.pinned (.plain (OpenSpec.upto vmLoopsSpec)) vmLoopsUptoCard

/-- THE SECOND FORM's CARD OF 'underwoodlaw08.VmCalls'. -/
def vmCallsUptoCard : Claim7 := { stood := { row := vmCallsUptoRow, standIns := [], harness := (true, "c052a3dc6d1c2bd47fc17ba8612a48ac0a70453cdcadd922e840c4290b32e7ec"), looks := true }, kinds := [], alts := [], laidByText := true, laidKinds := [.funcs], laidTests := true, laidLooks := .later }
def VmCallsUptoCardSaid : Prop := Claim7.holds Tryd.pinned (.plain (OpenSpec.upto vmCallsSpec)) vmCallsUptoCard

/-- THE SECOND FORM's CARD OF 'underwoodlaw08.VmFails'. -/
def vmFailsUptoCard : Claim7 := { stood := { row := vmFailsUptoRow, standIns := [], harness := (true, "c052a3dc6d1c2bd47fc17ba8612a48ac0a70453cdcadd922e840c4290b32e7ec"), looks := true }, kinds := [], alts := [], laidByText := true, laidKinds := [.funcs], laidTests := true, laidLooks := .later }
def VmFailsUptoCardSaid : Prop := Claim7.holds Tryd.pinned (.plain (OpenSpec.upto vmFailsSpec)) vmFailsUptoCard
end Rows
end Go.Proofs.YtfcgjadfhojogaaDoor
