/-
  No cell of these rows narrows 'for every input' (looked for: loops, veiled, ifaces, maps, wideKeys, modest, calm, conditions, laid).
  DERIVED. THE GIVEN ROWS OF THIS SEAT. 6 by the template 'for every input the law returns true; each argument reads behind the call as it read before'; 0 by the template 'total and deterministic' (their statements: YtfakedchahildaaTotals.lean).
  GIVEN WITH THE SEED: the statements are not yours to turn. If you find one false, say at which input.
  Laid BY PROGRAM, IN A SANDBOX (cutbox-rows.mjs): the forced cells as the released guide's own fill.sh prints them over the translation 2fb764a51052c26f… (all of the seat's roots in one cut). By AI agents, Wed Nov 11 2026. No macro, syntax, notation, axiom, sorry.
-/
import Derived.Test.YtfakedchahildaaChecked
import GoSem.Claim
import GoSem.ClaimJoined
import GoSem.ClaimMapViews
import Derived.JoinedTies
import Derived.KernelRfl
namespace Go.Proofs.Ytfakedchahildaa
/- THE CELL 'sum', in the pinned program and in every row, IS THE sha256 OF THE DUMP (.gsa) THAT YtfakedchahildaaProg.lean LOADS. Nothing in Lean hashes anything: it is a label: what it is worth is what the hold of that sum in a sandbox is worth. -/
noncomputable def Try.pinned : Pinned := { name := "ytfakedchahildaa", sum := "2fb764a51052c26fd7e3e5902638cb4e62363b4844464f1a64bf8889c0677540", checked := Try.checked }
namespace Rows
def none {H : Type} : Left H := { results := [], args := [] }

/-- 'payrolllaw44.LedgerEntries': WHATEVER THE INPUT: true; the input reads as it did. -/
def ledgerEntriesSpec : ChangeSpec := { name := "ledgerEntries", fn := fun _ => fun
  | [d1, d2] => { results := [.lit (.bool true)], args := [d1, d2] }
  | _ => none }
def ledgerEntriesRow : OpenClaim := { program := "ytfakedchahildaa", sum := "2fb764a51052c26fd7e3e5902638cb4e62363b4844464f1a64bf8889c0677540", func := "payroll/payrolllaw44.LedgerEntries", spec := "ledgerEntries", unfollowed := true, recurses := true, plainKeys := false, apart := false }
def LedgerEntriesSaid : Prop := ledgerEntriesRow.holds Try.pinned (OpenSpec.ofChange ledgerEntriesSpec)

/-- ITS FALSE NEIGHBOUR: 'it returns false'. Refute it at one input. -/
def ledgerEntriesWrong : ChangeSpec := { name := "ledgerEntries", fn := fun _ => fun
  | [d1, d2] => { results := [.lit (.bool false)], args := [d1, d2] }
  | _ => none }
def LedgerEntriesWrongFalsely : Prop := ledgerEntriesRow.holds Try.pinned (OpenSpec.ofChange ledgerEntriesWrong)

/-- 'payrolllaw44.LedgerLimits': WHATEVER THE INPUT: true; the input reads as it did. -/
def ledgerLimitsSpec : ChangeSpec := { name := "ledgerLimits", fn := fun _ => fun
  | [d] => { results := [.lit (.bool true)], args := [d] }
  | _ => none }
def ledgerLimitsRow : OpenClaim := { program := "ytfakedchahildaa", sum := "2fb764a51052c26fd7e3e5902638cb4e62363b4844464f1a64bf8889c0677540", func := "payroll/payrolllaw44.LedgerLimits", spec := "ledgerLimits", unfollowed := true, recurses := true, plainKeys := false, apart := false }
def LedgerLimitsSaid : Prop := ledgerLimitsRow.holds Try.pinned (OpenSpec.ofChange ledgerLimitsSpec)

/-- ITS FALSE NEIGHBOUR: 'it returns false'. Refute it at one input. -/
def ledgerLimitsWrong : ChangeSpec := { name := "ledgerLimits", fn := fun _ => fun
  | [d] => { results := [.lit (.bool false)], args := [d] }
  | _ => none }
def LedgerLimitsWrongFalsely : Prop := ledgerLimitsRow.holds Try.pinned (OpenSpec.ofChange ledgerLimitsWrong)

/-- 'payrolllaw44.LedgerMerges': WHATEVER THE INPUT: true; the input reads as it did. -/
def ledgerMergesSpec : ChangeSpec := { name := "ledgerMerges", fn := fun _ => fun
  | [d1, d2] => { results := [.lit (.bool true)], args := [d1, d2] }
  | _ => none }
def ledgerMergesRow : OpenClaim := { program := "ytfakedchahildaa", sum := "2fb764a51052c26fd7e3e5902638cb4e62363b4844464f1a64bf8889c0677540", func := "payroll/payrolllaw44.LedgerMerges", spec := "ledgerMerges", unfollowed := true, recurses := true, plainKeys := false, apart := false }
def LedgerMergesSaid : Prop := ledgerMergesRow.holds Try.pinned (OpenSpec.ofChange ledgerMergesSpec)

/-- ITS FALSE NEIGHBOUR: 'it returns false'. Refute it at one input. -/
def ledgerMergesWrong : ChangeSpec := { name := "ledgerMerges", fn := fun _ => fun
  | [d1, d2] => { results := [.lit (.bool false)], args := [d1, d2] }
  | _ => none }
def LedgerMergesWrongFalsely : Prop := ledgerMergesRow.holds Try.pinned (OpenSpec.ofChange ledgerMergesWrong)

/-- 'payrolllaw44.LedgerDivides': WHATEVER THE INPUT: true; the input reads as it did. -/
def ledgerDividesSpec : ChangeSpec := { name := "ledgerDivides", fn := fun _ => fun
  | [d1, d2] => { results := [.lit (.bool true)], args := [d1, d2] }
  | _ => none }
def ledgerDividesRow : OpenClaim := { program := "ytfakedchahildaa", sum := "2fb764a51052c26fd7e3e5902638cb4e62363b4844464f1a64bf8889c0677540", func := "payroll/payrolllaw44.LedgerDivides", spec := "ledgerDivides", unfollowed := true, recurses := true, plainKeys := false, apart := false }
def LedgerDividesSaid : Prop := ledgerDividesRow.holds Try.pinned (OpenSpec.ofChange ledgerDividesSpec)

/-- ITS FALSE NEIGHBOUR: 'it returns false'. Refute it at one input. -/
def ledgerDividesWrong : ChangeSpec := { name := "ledgerDivides", fn := fun _ => fun
  | [d1, d2] => { results := [.lit (.bool false)], args := [d1, d2] }
  | _ => none }
def LedgerDividesWrongFalsely : Prop := ledgerDividesRow.holds Try.pinned (OpenSpec.ofChange ledgerDividesWrong)

/-- 'payrolllaw44.LedgerCancels': WHATEVER THE INPUT: true; the input reads as it did. -/
def ledgerCancelsSpec : ChangeSpec := { name := "ledgerCancels", fn := fun _ => fun
  | [d1, d2] => { results := [.lit (.bool true)], args := [d1, d2] }
  | _ => none }
def ledgerCancelsRow : OpenClaim := { program := "ytfakedchahildaa", sum := "2fb764a51052c26fd7e3e5902638cb4e62363b4844464f1a64bf8889c0677540", func := "payroll/payrolllaw44.LedgerCancels", spec := "ledgerCancels", unfollowed := true, recurses := true, plainKeys := false, apart := false }
def LedgerCancelsSaid : Prop := ledgerCancelsRow.holds Try.pinned (OpenSpec.ofChange ledgerCancelsSpec)

/-- ITS FALSE NEIGHBOUR: 'it returns false'. Refute it at one input. -/
def ledgerCancelsWrong : ChangeSpec := { name := "ledgerCancels", fn := fun _ => fun
  | [d1, d2] => { results := [.lit (.bool false)], args := [d1, d2] }
  | _ => none }
def LedgerCancelsWrongFalsely : Prop := ledgerCancelsRow.holds Try.pinned (OpenSpec.ofChange ledgerCancelsWrong)

/-- 'payrolllaw44.LedgerPaid': WHATEVER THE INPUT: true; the input reads as it did. -/
def ledgerPaidSpec : ChangeSpec := { name := "ledgerPaid", fn := fun _ => fun
  | [d1, d2, d3] => { results := [.lit (.bool true)], args := [d1, d2, d3] }
  | _ => none }
def ledgerPaidRow : OpenClaim := { program := "ytfakedchahildaa", sum := "2fb764a51052c26fd7e3e5902638cb4e62363b4844464f1a64bf8889c0677540", func := "payroll/payrolllaw44.LedgerPaid", spec := "ledgerPaid", unfollowed := true, recurses := true, plainKeys := false, apart := false }
def LedgerPaidSaid : Prop := ledgerPaidRow.holds Try.pinned (OpenSpec.ofChange ledgerPaidSpec)

/-- ITS FALSE NEIGHBOUR: 'it returns false'. Refute it at one input. -/
def ledgerPaidWrong : ChangeSpec := { name := "ledgerPaid", fn := fun _ => fun
  | [d1, d2, d3] => { results := [.lit (.bool false)], args := [d1, d2, d3] }
  | _ => none }
def LedgerPaidWrongFalsely : Prop := ledgerPaidRow.holds Try.pinned (OpenSpec.ofChange ledgerPaidWrong)

/- THE SECOND FORM. 'bulk': how many values and letters a reading holds, each counted each time it is reached (what is shared counts as often as it is met; a slice's spare places count too). A statement '..UptoSaid' is the law's where the arguments, and the package variables that the reading takes, are together of bulk at most 1048576: NARROWER than '..Said'. Prove '..Said' where nothing that the law and all that it calls make is longer than what came in: it says more and counts as full. Else prove '..UptoSaid'. A law counts once. -/
mutual
def uptoBulk {H : Type} : DataW H → Nat
  | .lit (.string bytes) => bytes.length + 1
  | .lit _ => 1
  | .nil => 1
  | .ptr d => uptoBulk d + 1
  | .slice elems spare => uptoBulkAll elems + uptoBulkAll spare + 1
  | .agg parts => uptoBulkAll parts + 1
  | .iface _ d => uptoBulk d + 1
  | .map entries => uptoBulkEntries entries + 1
  | .held _ => 1
def uptoBulkAll {H : Type} : List (DataW H) → Nat
  | [] => 0
  | d :: r => uptoBulk d + uptoBulkAll r
def uptoBulkEntries {H : Type} : List (Lit × DataW H) → Nat
  | [] => 0
  | x :: r => uptoBulkEntry x + uptoBulkEntries r
def uptoBulkEntry {H : Type} : Lit × DataW H → Nat
  | (.string bytes, d) => bytes.length + uptoBulk d + 1
  | (_, d) => uptoBulk d + 1
 end
def uptoSmall : (H : Type) → List (DataW H) → Bool := fun _ ds => decide (uptoBulkAll ds ≤ 1048576)
def OpenSpec.upto (s : _root_.Go.ChangeSpec) : _root_.Go.OpenSpec := { _root_.Go.OpenSpec.ofChange s with cond := some uptoSmall }

/-- 'payrolllaw44.LedgerEntries', WHERE WHAT IT READS IS OF BULK AT MOST 1048576: true; the input reads as it did. -/
def ledgerEntriesUptoRow : OpenClaim := { program := "ytfakedchahildaa", sum := "2fb764a51052c26fd7e3e5902638cb4e62363b4844464f1a64bf8889c0677540", func := "payroll/payrolllaw44.LedgerEntries", spec := "ledgerEntries", unfollowed := true, recurses := true, plainKeys := false, apart := false, narrowed := true }
def LedgerEntriesUptoSaid : Prop := ledgerEntriesUptoRow.holds Try.pinned (OpenSpec.upto ledgerEntriesSpec)

/-- 'payrolllaw44.LedgerLimits', WHERE WHAT IT READS IS OF BULK AT MOST 1048576: true; the input reads as it did. -/
def ledgerLimitsUptoRow : OpenClaim := { program := "ytfakedchahildaa", sum := "2fb764a51052c26fd7e3e5902638cb4e62363b4844464f1a64bf8889c0677540", func := "payroll/payrolllaw44.LedgerLimits", spec := "ledgerLimits", unfollowed := true, recurses := true, plainKeys := false, apart := false, narrowed := true }
def LedgerLimitsUptoSaid : Prop := ledgerLimitsUptoRow.holds Try.pinned (OpenSpec.upto ledgerLimitsSpec)

/-- 'payrolllaw44.LedgerMerges', WHERE WHAT IT READS IS OF BULK AT MOST 1048576: true; the input reads as it did. -/
def ledgerMergesUptoRow : OpenClaim := { program := "ytfakedchahildaa", sum := "2fb764a51052c26fd7e3e5902638cb4e62363b4844464f1a64bf8889c0677540", func := "payroll/payrolllaw44.LedgerMerges", spec := "ledgerMerges", unfollowed := true, recurses := true, plainKeys := false, apart := false, narrowed := true }
def LedgerMergesUptoSaid : Prop := ledgerMergesUptoRow.holds Try.pinned (OpenSpec.upto ledgerMergesSpec)

/-- 'payrolllaw44.LedgerDivides', WHERE WHAT IT READS IS OF BULK AT MOST 1048576: true; the input reads as it did. -/
def ledgerDividesUptoRow : OpenClaim := { program := "ytfakedchahildaa", sum := "2fb764a51052c26fd7e3e5902638cb4e62363b4844464f1a64bf8889c0677540", func := "payroll/payrolllaw44.LedgerDivides", spec := "ledgerDivides", unfollowed := true, recurses := true, plainKeys := false, apart := false, narrowed := true }
def LedgerDividesUptoSaid : Prop := ledgerDividesUptoRow.holds Try.pinned (OpenSpec.upto ledgerDividesSpec)

/-- 'payrolllaw44.LedgerCancels', WHERE WHAT IT READS IS OF BULK AT MOST 1048576: true; the input reads as it did. -/
def ledgerCancelsUptoRow : OpenClaim := { program := "ytfakedchahildaa", sum := "2fb764a51052c26fd7e3e5902638cb4e62363b4844464f1a64bf8889c0677540", func := "payroll/payrolllaw44.LedgerCancels", spec := "ledgerCancels", unfollowed := true, recurses := true, plainKeys := false, apart := false, narrowed := true }
def LedgerCancelsUptoSaid : Prop := ledgerCancelsUptoRow.holds Try.pinned (OpenSpec.upto ledgerCancelsSpec)

/-- 'payrolllaw44.LedgerPaid', WHERE WHAT IT READS IS OF BULK AT MOST 1048576: true; the input reads as it did. -/
def ledgerPaidUptoRow : OpenClaim := { program := "ytfakedchahildaa", sum := "2fb764a51052c26fd7e3e5902638cb4e62363b4844464f1a64bf8889c0677540", func := "payroll/payrolllaw44.LedgerPaid", spec := "ledgerPaid", unfollowed := true, recurses := true, plainKeys := false, apart := false, narrowed := true }
def LedgerPaidUptoSaid : Prop := ledgerPaidUptoRow.holds Try.pinned (OpenSpec.upto ledgerPaidSpec)

end Rows
end Go.Proofs.Ytfakedchahildaa
