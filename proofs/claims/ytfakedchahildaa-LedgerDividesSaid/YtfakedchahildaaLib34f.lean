/- Lines of payslips: their form, by package payslip and by its reference. Plain Lean over the printed functions. -/
import Derived.Test.YtfakedchahildaaLib17
import Derived.Test.YtfakedchahildaaQx5
import Derived.Test.YtfakedchahildaaQx11
import Derived.Test.YtfakedchahildaaQx2
namespace Go.Proofs.Ytfakedchahildaa.Lib34
open Go.RowKit Go.Proofs.Ytfakedchahildaa.Q Go.Proofs.YtfakedchahildaaW.PrintWords Go.Proofs.YtfakedchahildaaW.PrintLast Go.Proofs.Ytfakedchahildaa.MapKit Go.Proofs.Ytfakedchahildaa.ListKit Go.Proofs.Ytfakedchahildaa.Lib17
theorem ptot_eq (n : Int) : payslip_total.f n = some (tot n) := by
  unfold payslip_total.f tot
  by_cases h : n ≥ (-1000000000000)
  · rw [if_pos h]; congr 1; by_cases h2 : n ≤ 1000000000000
    · rw [decide_eq_true h2, decide_eq_true ⟨h, h2⟩]
    · rw [decide_eq_false h2, decide_eq_false (fun c => h2 c.2)]
  · rw [if_neg h]; rw [decide_eq_false (fun c => h c.1)]
abbrev Ln := S26
def codedB (a : Int) : Bool := !(decide (a = 6) || (decide (a = 9) || decide (a = 10)))
def formS (a : Int) (s : ByteArray) (n : Int) : Bool := decide (1 ≤ a ∧ a ≤ 10) && (tot n && (if codedB a = true then nameS s else decide (s.toList = ([] : List UInt8))))
def formL (x : Ln) : Bool := formS x.f0 x.f1 x.f2
theorem coded_eq (a : Int) : payslip_coded.f a = some (codedB a) := by
  unfold payslip_coded.f codedB
  by_cases h1 : a = 6
  · simp [h1]
  by_cases h2 : a = 9
  · simp [h2]
  by_cases h3 : a = 10 <;> simp [h1, h2, h3]
theorem bare_eq (a : Int) : payrollref32_Bare.f a = some (!codedB a) := by
  unfold payrollref32_Bare.f codedB
  by_cases h1 : a = 6
  · simp [h1]
  by_cases h2 : a = 9
  · simp [h2]
  by_cases h3 : a = 10 <;> simp [h1, h2, h3]
theorem form_ev (a : Int) (s : ByteArray) (n : Int) : Ev (fun k => payslip_form.f k a s n) (formS a s n) := by
  have hf : Ev (fun k => payslip_form.j0 k true a s n) false := Ev.step (f := fun _ => some false) (fun k => by simp [payslip_form.j0]) (Ev.now _)
  unfold payslip_form.f formS
  by_cases h1 : a < 1
  · rw [decide_eq_false (by omega), Bool.false_and]; exact Ev.congr (fun k => if_pos h1) hf
  by_cases h2 : a > 10
  · rw [decide_eq_false (by omega), Bool.false_and]; exact Ev.congr (fun k => (if_neg h1).trans (if_pos h2)) hf
  rw [decide_eq_true (by omega), Bool.true_and]
  refine Ev.congr (fun k => (if_neg h1).trans ((if_neg h2).trans (by rw [ptot_eq, Option.bind_some]))) ?_
  cases tot n with
  | false => exact hf
  | true =>
    rw [Bool.true_and]
    refine Ev.step (f := fun k => if codedB a = true then (token_IsName.f k s).bind fun t => some t else some (s.toList == ([] : List UInt8))) (fun k => ?_) ?_
    · simp only [payslip_form.j0]
      rw [if_neg (by simp), coded_eq, Option.bind_some]
    · by_cases h : codedB a = true
      · rw [if_pos h]
        exact Ev.congr (fun k => if_pos h) (Ev.bind (name_ev s) (Ev.now _))
      · rw [if_neg h]
        refine Ev.congr (fun k => if_neg h) ?_
        rw [show (s.toList == ([] : List UInt8)) = decide (s.toList = ([] : List UInt8)) from (Bool.beq_eq_decide_eq _ _)]
        exact Ev.now _
theorem rform_ev (a : Int) (s : ByteArray) (n : Int) : Ev (fun k => payrollref32_Form.f k a s n) (formS a s n) := by
  have hf : Ev (fun k => payrollref32_Form.j0 k true a s n) false := Ev.step (f := fun _ => some false) (fun k => by simp [payrollref32_Form.j0]) (Ev.now _)
  unfold payrollref32_Form.f formS
  by_cases h1 : a < 1
  · rw [decide_eq_false (show ¬ (1 ≤ a ∧ a ≤ 10) by omega), Bool.false_and]; exact Ev.congr (fun k => if_pos h1) hf
  by_cases h2 : a > 10
  · rw [decide_eq_false (show ¬ (1 ≤ a ∧ a ≤ 10) by omega), Bool.false_and]; exact Ev.congr (fun k => (if_neg h1).trans (if_pos h2)) hf
  rw [decide_eq_true (show 1 ≤ a ∧ a ≤ 10 by omega), Bool.true_and]
  refine Ev.congr (fun k => (if_neg h1).trans (if_neg h2)) ?_
  unfold tot
  by_cases h3 : n < -1000000000000
  · rw [decide_eq_false (show ¬ (-1000000000000 ≤ n ∧ n ≤ 1000000000000) by omega), Bool.false_and]; exact Ev.congr (fun k => if_pos h3) hf
  refine Ev.congr (fun k => if_neg h3) ?_
  by_cases h4 : n > 1000000000000
  · rw [decide_eq_false (show ¬ (-1000000000000 ≤ n ∧ n ≤ 1000000000000) by omega), Bool.false_and, decide_eq_true h4]; exact hf
  rw [decide_eq_true (show -1000000000000 ≤ n ∧ n ≤ 1000000000000 by omega), Bool.true_and, decide_eq_false h4]
  refine Ev.step (f := fun k => if codedB a = true then (payrollref17_IsName.f k s).bind fun t => some t else some (s.toList == ([] : List UInt8))) (fun k => ?_) ?_
  · simp only [payrollref32_Form.j0]
    rw [if_neg (by simp), bare_eq, Option.bind_some]
    cases codedB a <;> simp
  · by_cases h : codedB a = true
    · rw [if_pos h]
      exact Ev.congr (fun k => if_pos h) (Ev.bind (rname_ev s) (Ev.now _))
    · rw [if_neg h]
      refine Ev.congr (fun k => if_neg h) ?_
      rw [show (s.toList == ([] : List UInt8)) = decide (s.toList = ([] : List UInt8)) from (Bool.beq_eq_decide_eq _ _)]
      exact Ev.now _
end Go.Proofs.Ytfakedchahildaa.Lib34
