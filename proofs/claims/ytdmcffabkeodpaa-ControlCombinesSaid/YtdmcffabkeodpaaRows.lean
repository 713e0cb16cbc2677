/-
  No cell of these rows narrows 'for every input' (looked for: loops, veiled, ifaces, maps, wideKeys, modest, calm, conditions, laid).
  DERIVED. THE GIVEN ROWS OF THIS SEAT. 6 by the template 'for every input the law returns true; each argument reads behind the call as it read before'; 0 by the template 'total and deterministic' (their statements: YtdmcffabkeodpaaTotals.lean).
  GIVEN WITH THE SEED: the statements are not yours to turn. If you find one false, say at which input.
  Laid BY PROGRAM, IN A SANDBOX (cutbox-rows.mjs): the forced cells as the released guide's own fill.sh prints them over the translation 4aee979bf2c75c7a… (all of the seat's roots in one cut). By AI agents, Wed Nov 11 2026. No macro, syntax, notation, axiom, sorry.
-/
import Derived.Test.YtdmcffabkeodpaaChecked
import GoSem.Claim
import GoSem.ClaimJoined
import GoSem.ClaimMapViews
import Derived.JoinedTies
import Derived.KernelRfl
namespace Go.Proofs.Ytdmcffabkeodpaa
/- THE CELL 'sum', in the pinned program and in every row, IS THE sha256 OF THE DUMP (.gsa) THAT YtdmcffabkeodpaaProg.lean LOADS. Nothing in Lean hashes anything: it is a label: what it is worth is what the hold of that sum in a sandbox is worth. -/
noncomputable def Try.pinned : Pinned := { name := "ytdmcffabkeodpaa", sum := "4aee979bf2c75c7a43416564cad1f9b9a3f744826e18455cbd5f09f0c458608a", checked := Try.checked }
namespace Rows
def none {H : Type} : Left H := { results := [], args := [] }

/-- 'payrolllaw39.ControlKeeps': WHATEVER THE INPUT: true; the input reads as it did. -/
def controlKeepsSpec : ChangeSpec := { name := "controlKeeps", fn := fun _ => fun
  | [d] => { results := [.lit (.bool true)], args := [d] }
  | _ => none }
def controlKeepsRow : OpenClaim := { program := "ytdmcffabkeodpaa", sum := "4aee979bf2c75c7a43416564cad1f9b9a3f744826e18455cbd5f09f0c458608a", func := "payroll/payrolllaw39.ControlKeeps", spec := "controlKeeps", unfollowed := true, recurses := true, apart := false }
def ControlKeepsSaid : Prop := controlKeepsRow.holds Try.pinned (OpenSpec.ofChange controlKeepsSpec)

/-- ITS FALSE NEIGHBOUR: 'it returns false'. Refute it at one input. -/
def controlKeepsWrong : ChangeSpec := { name := "controlKeeps", fn := fun _ => fun
  | [d] => { results := [.lit (.bool false)], args := [d] }
  | _ => none }
def ControlKeepsWrongFalsely : Prop := controlKeepsRow.holds Try.pinned (OpenSpec.ofChange controlKeepsWrong)

/-- 'payrolllaw39.ControlDetects': WHATEVER THE INPUT: true; the input reads as it did. -/
def controlDetectsSpec : ChangeSpec := { name := "controlDetects", fn := fun _ => fun
  | [d1, d2, d3, d4] => { results := [.lit (.bool true)], args := [d1, d2, d3, d4] }
  | _ => none }
def controlDetectsRow : OpenClaim := { program := "ytdmcffabkeodpaa", sum := "4aee979bf2c75c7a43416564cad1f9b9a3f744826e18455cbd5f09f0c458608a", func := "payroll/payrolllaw39.ControlDetects", spec := "controlDetects", unfollowed := true, recurses := true, apart := false }
def ControlDetectsSaid : Prop := controlDetectsRow.holds Try.pinned (OpenSpec.ofChange controlDetectsSpec)

/-- ITS FALSE NEIGHBOUR: 'it returns false'. Refute it at one input. -/
def controlDetectsWrong : ChangeSpec := { name := "controlDetects", fn := fun _ => fun
  | [d1, d2, d3, d4] => { results := [.lit (.bool false)], args := [d1, d2, d3, d4] }
  | _ => none }
def ControlDetectsWrongFalsely : Prop := controlDetectsRow.holds Try.pinned (OpenSpec.ofChange controlDetectsWrong)

/-- 'payrolllaw39.ControlCombines': WHATEVER THE INPUT: true; the input reads as it did. -/
def controlCombinesSpec : ChangeSpec := { name := "controlCombines", fn := fun _ => fun
  | [d1, d2, d3] => { results := [.lit (.bool true)], args := [d1, d2, d3] }
  | _ => none }
def controlCombinesRow : OpenClaim := { program := "ytdmcffabkeodpaa", sum := "4aee979bf2c75c7a43416564cad1f9b9a3f744826e18455cbd5f09f0c458608a", func := "payroll/payrolllaw39.ControlCombines", spec := "controlCombines", unfollowed := true, recurses := true, apart := false }
def ControlCombinesSaid : Prop := controlCombinesRow.holds Try.pinned (OpenSpec.ofChange controlCombinesSpec)

/-- ITS FALSE NEIGHBOUR: 'it returns false'. Refute it at one input. -/
def controlCombinesWrong : ChangeSpec := { name := "controlCombines", fn := fun _ => fun
  | [d1, d2, d3] => { results := [.lit (.bool false)], args := [d1, d2, d3] }
  | _ => none }
def ControlCombinesWrongFalsely : Prop := controlCombinesRow.holds Try.pinned (OpenSpec.ofChange controlCombinesWrong)

/-- 'payrolllaw39.ControlTotals': WHATEVER THE INPUT: true; the input reads as it did. -/
def controlTotalsSpec : ChangeSpec := { name := "controlTotals", fn := fun _ => fun
  | [d1, d2, d3, d4] => { results := [.lit (.bool true)], args := [d1, d2, d3, d4] }
  | _ => none }
def controlTotalsRow : OpenClaim := { program := "ytdmcffabkeodpaa", sum := "4aee979bf2c75c7a43416564cad1f9b9a3f744826e18455cbd5f09f0c458608a", func := "payroll/payrolllaw39.ControlTotals", spec := "controlTotals", unfollowed := true, recurses := true, apart := false }
def ControlTotalsSaid : Prop := controlTotalsRow.holds Try.pinned (OpenSpec.ofChange controlTotalsSpec)

/-- ITS FALSE NEIGHBOUR: 'it returns false'. Refute it at one input. -/
def controlTotalsWrong : ChangeSpec := { name := "controlTotals", fn := fun _ => fun
  | [d1, d2, d3, d4] => { results := [.lit (.bool false)], args := [d1, d2, d3, d4] }
  | _ => none }
def ControlTotalsWrongFalsely : Prop := controlTotalsRow.holds Try.pinned (OpenSpec.ofChange controlTotalsWrong)

/-- 'payrolllaw39.ControlLimits': WHATEVER THE INPUT: true; the input reads as it did. -/
def controlLimitsSpec : ChangeSpec := { name := "controlLimits", fn := fun _ => fun
  | [d] => { results := [.lit (.bool true)], args := [d] }
  | _ => none }
def controlLimitsRow : OpenClaim := { program := "ytdmcffabkeodpaa", sum := "4aee979bf2c75c7a43416564cad1f9b9a3f744826e18455cbd5f09f0c458608a", func := "payroll/payrolllaw39.ControlLimits", spec := "controlLimits", unfollowed := true, recurses := true, apart := false }
def ControlLimitsSaid : Prop := controlLimitsRow.holds Try.pinned (OpenSpec.ofChange controlLimitsSpec)

/-- ITS FALSE NEIGHBOUR: 'it returns false'. Refute it at one input. -/
def controlLimitsWrong : ChangeSpec := { name := "controlLimits", fn := fun _ => fun
  | [d] => { results := [.lit (.bool false)], args := [d] }
  | _ => none }
def ControlLimitsWrongFalsely : Prop := controlLimitsRow.holds Try.pinned (OpenSpec.ofChange controlLimitsWrong)

/-- 'payrolllaw39.ControlDivides': WHATEVER THE INPUT: true; the input reads as it did. -/
def controlDividesSpec : ChangeSpec := { name := "controlDivides", fn := fun _ => fun
  | [d1, d2] => { results := [.lit (.bool true)], args := [d1, d2] }
  | _ => none }
def controlDividesRow : OpenClaim := { program := "ytdmcffabkeodpaa", sum := "4aee979bf2c75c7a43416564cad1f9b9a3f744826e18455cbd5f09f0c458608a", func := "payroll/payrolllaw39.ControlDivides", spec := "controlDivides", unfollowed := true, recurses := true, apart := false }
def ControlDividesSaid : Prop := controlDividesRow.holds Try.pinned (OpenSpec.ofChange controlDividesSpec)

/-- ITS FALSE NEIGHBOUR: 'it returns false'. Refute it at one input. -/
def controlDividesWrong : ChangeSpec := { name := "controlDivides", fn := fun _ => fun
  | [d1, d2] => { results := [.lit (.bool false)], args := [d1, d2] }
  | _ => none }
def ControlDividesWrongFalsely : Prop := controlDividesRow.holds Try.pinned (OpenSpec.ofChange controlDividesWrong)

/- THE SECOND FORM. 'bulk': how many values and letters a reading holds, each counted each time it is reached (what is shared counts as often as it is met; a slice's spare places count too). A statement '..UptoSaid' is the law's where the arguments, and the package variables that the reading takes, are together of bulk at most 1048576: NARROWER than '..Said'. Prove '..Said' where nothing that the law and all that it calls make is longer than what came in: it says more and counts as full. Else prove '..UptoSaid'. A law counts once. -/
mutual
def uptoBulk {H : Type} : DataW H → Nat
  | .lit (.string bytes) => bytes.length + 1
  | .lit _ => 1
  | .nil => 1
  | .ptr d => uptoBulk d + 1
  | .slice elems spare => uptoBulkAll elems + uptoBulkAll spare + 1
  | .agg parts => uptoBulkAll parts + 1
  | .iface _ d => uptoBulk d + 1
  | .map entries => uptoBulkEntries entries + 1
  | .held _ => 1
def uptoBulkAll {H : Type} : List (DataW H) → Nat
  | [] => 0
  | d :: r => uptoBulk d + uptoBulkAll r
def uptoBulkEntries {H : Type} : List (Lit × DataW H) → Nat
  | [] => 0
  | x :: r => uptoBulkEntry x + uptoBulkEntries r
def uptoBulkEntry {H : Type} : Lit × DataW H → Nat
  | (.string bytes, d) => bytes.length + uptoBulk d + 1
  | (_, d) => uptoBulk d + 1
 end
def uptoSmall : (H : Type) → List (DataW H) → Bool := fun _ ds => decide (uptoBulkAll ds ≤ 1048576)
def OpenSpec.upto (s : _root_.Go.ChangeSpec) : _root_.Go.OpenSpec := { _root_.Go.OpenSpec.ofChange s with cond := some uptoSmall }

/-- 'payrolllaw39.ControlKeeps', WHERE WHAT IT READS IS OF BULK AT MOST 1048576: true; the input reads as it did. -/
def controlKeepsUptoRow : OpenClaim := { program := "ytdmcffabkeodpaa", sum := "4aee979bf2c75c7a43416564cad1f9b9a3f744826e18455cbd5f09f0c458608a", func := "payroll/payrolllaw39.ControlKeeps", spec := "controlKeeps", unfollowed := true, recurses := true, apart := false, narrowed := true }
def ControlKeepsUptoSaid : Prop := controlKeepsUptoRow.holds Try.pinned (OpenSpec.upto controlKeepsSpec)

/-- 'payrolllaw39.ControlDetects', WHERE WHAT IT READS IS OF BULK AT MOST 1048576: true; the input reads as it did. -/
def controlDetectsUptoRow : OpenClaim := { program := "ytdmcffabkeodpaa", sum := "4aee979bf2c75c7a43416564cad1f9b9a3f744826e18455cbd5f09f0c458608a", func := "payroll/payrolllaw39.ControlDetects", spec := "controlDetects", unfollowed := true, recurses := true, apart := false, narrowed := true }
def ControlDetectsUptoSaid : Prop := controlDetectsUptoRow.holds Try.pinned (OpenSpec.upto controlDetectsSpec)

/-- 'payrolllaw39.ControlCombines', WHERE WHAT IT READS IS OF BULK AT MOST 1048576: true; the input reads as it did. -/
def controlCombinesUptoRow : OpenClaim := { program := "ytdmcffabkeodpaa", sum := "4aee979bf2c75c7a43416564cad1f9b9a3f744826e18455cbd5f09f0c458608a", func := "payroll/payrolllaw39.ControlCombines", spec := "controlCombines", unfollowed := true, recurses := true, apart := false, narrowed := true }
def ControlCombinesUptoSaid : Prop := controlCombinesUptoRow.holds Try.pinned (OpenSpec.upto controlCombinesSpec)

/-- 'payrolllaw39.ControlTotals', WHERE WHAT IT READS IS OF BULK AT MOST 1048576: true; the input reads as it did. -/
def controlTotalsUptoRow : OpenClaim := { program := "ytdmcffabkeodpaa", sum := "4aee979bf2c75c7a43416564cad1f9b9a3f744826e18455cbd5f09f0c458608a", func := "payroll/payrolllaw39.ControlTotals", spec := "controlTotals", unfollowed := true, recurses := true, apart := false, narrowed := true }
def ControlTotalsUptoSaid : Prop := controlTotalsUptoRow.holds Try.pinned (OpenSpec.upto controlTotalsSpec)

/-- 'payrolllaw39.ControlLimits', WHERE WHAT IT READS IS OF BULK AT MOST 1048576: true; the input reads as it did. -/
def controlLimitsUptoRow : OpenClaim := { program := "ytdmcffabkeodpaa", sum := "4aee979bf2c75c7a43416564cad1f9b9a3f744826e18455cbd5f09f0c458608a", func := "payroll/payrolllaw39.ControlLimits", spec := "controlLimits", unfollowed := true, recurses := true, apart := false, narrowed := true }
def ControlLimitsUptoSaid : Prop := controlLimitsUptoRow.holds Try.pinned (OpenSpec.upto controlLimitsSpec)

/-- 'payrolllaw39.ControlDivides', WHERE WHAT IT READS IS OF BULK AT MOST 1048576: true; the input reads as it did. -/
def controlDividesUptoRow : OpenClaim := { program := "ytdmcffabkeodpaa", sum := "4aee979bf2c75c7a43416564cad1f9b9a3f744826e18455cbd5f09f0c458608a", func := "payroll/payrolllaw39.ControlDivides", spec := "controlDivides", unfollowed := true, recurses := true, apart := false, narrowed := true }
def ControlDividesUptoSaid : Prop := controlDividesUptoRow.holds Try.pinned (OpenSpec.upto controlDividesSpec)

end Rows
end Go.Proofs.Ytdmcffabkeodpaa
