/- Lines of payslips: package payslip and its reference answer the same. Plain Lean over the printed functions. -/
import Derived.Test.YtdlljjglmcpniaaLib17
import Derived.Test.YtdlljjglmcpniaaQx4
import Derived.Test.YtdlljjglmcpniaaQx0
import Derived.Test.YtdlljjglmcpniaaQx6
import Derived.Test.YtdlljjglmcpniaaQx19
namespace Go.Proofs.Ytdlljjglmcpniaa.Lib34
open Go.RowKit Go.Proofs.Ytdlljjglmcpniaa.Q Go.Proofs.YtdlljjglmcpniaaW.PrintWords Go.Proofs.YtdlljjglmcpniaaW.PrintLast Go.Proofs.Ytdlljjglmcpniaa.MapKit Go.Proofs.Ytdlljjglmcpniaa.ListKit Go.Proofs.Ytdlljjglmcpniaa.Lib17
abbrev Ln := S56
def codedB (a : Int) : Bool := !(decide (a = 6) || (decide (a = 9) || decide (a = 10)))
def formS (a : Int) (s : ByteArray) (n : Int) : Bool := decide (1 ≤ a ∧ a ≤ 10) && (tot n && (if codedB a = true then nameS s else decide (s.toList = ([] : List UInt8))))
def formL (x : Ln) : Bool := formS x.f0 x.f1 x.f2
theorem coded_eq (a : Int) : payslip_coded.f a = some (codedB a) := by
  unfold payslip_coded.f codedB
  by_cases h1 : a = 6
  · simp [h1]
  by_cases h2 : a = 9
  · simp [h2]
  by_cases h3 : a = 10 <;> simp [h1, h2, h3]
theorem bare_eq (a : Int) : payrollref32_Bare.f a = some (!codedB a) := by
  unfold payrollref32_Bare.f codedB
  by_cases h1 : a = 6
  · simp [h1]
  by_cases h2 : a = 9
  · simp [h2]
  by_cases h3 : a = 10 <;> simp [h1, h2, h3]
theorem form_ev (a : Int) (s : ByteArray) (n : Int) : Ev (fun k => payslip_form.f k a s n) (formS a s n) := by
  have hf : Ev (fun k => payslip_form.j0 k true a s n) false := Ev.step (f := fun _ => some false) (fun k => by simp [payslip_form.j0]) (Ev.now _)
  unfold payslip_form.f formS
  by_cases h1 : a < 1
  · rw [decide_eq_false (by omega), Bool.false_and]; exact Ev.congr (fun k => if_pos h1) hf
  by_cases h2 : a > 10
  · rw [decide_eq_false (by omega), Bool.false_and]; exact Ev.congr (fun k => (if_neg h1).trans (if_pos h2)) hf
  rw [decide_eq_true (by omega), Bool.true_and]
  refine Ev.congr (fun k => (if_neg h1).trans ((if_neg h2).trans (by rw [tot_eq, Option.bind_some]))) ?_
  cases tot n with
  | false => exact hf
  | true =>
    rw [Bool.true_and]
    refine Ev.step (f := fun k => if codedB a = true then (token_IsName.f k s).bind fun t => some t else some (s.toList == ([] : List UInt8))) (fun k => ?_) ?_
    · simp only [payslip_form.j0]
      rw [if_neg (by simp), coded_eq, Option.bind_some]
    · by_cases h : codedB a = true
      · rw [if_pos h]
        exact Ev.congr (fun k => if_pos h) (Ev.bind (name_ev s) (Ev.now _))
      · rw [if_neg h]
        refine Ev.congr (fun k => if_neg h) ?_
        rw [show (s.toList == ([] : List UInt8)) = decide (s.toList = ([] : List UInt8)) from (Bool.beq_eq_decide_eq _ _)]
        exact Ev.now _
theorem formAll_ev : ∀ l : List Ln, Ev (fun k => formAll k l) (l.all formL)
  | [] => Ev.now _
  | x :: r => by
    unfold formAll
    rw [List.all_cons]
    refine Ev.bind (form_ev x.f0 x.f1 x.f2) ?_
    show Ev (fun k => if formL x = true then formAll k r else some false) _
    cases formL x with
    | true => rw [Bool.true_and]; exact Ev.congr (fun k => if_pos rfl) (formAll_ev r)
    | false => rw [Bool.false_and]; exact Ev.congr (fun k => if_neg (by simp)) (Ev.now _)
def sumsSpec (l : List Ln) : List (Pr Int Str × Int) × Int :=
  if (l.length : Int) > 65536 then ([], 3) else if l.all formL = true then (if (sumsL l).all (fun p => tot p.2) = true then (sumsL l, 0) else ([], 4)) else ([], 1)
theorem sums_ev (l : List Ln) : Ev (fun k => payslip_sums.f k l) (sumsSpec l) := by
  unfold payslip_sums.f sumsSpec
  by_cases h : (l.length : Int) > 65536
  · rw [if_pos h]; exact Ev.congr (fun k => if_pos h) (Ev.now _)
  rw [if_neg h]
  refine Ev.congr (fun k => if_neg h) (Ev.bind (formAll_ev l) ?_)
  by_cases h2 : l.all formL = true
  · rw [if_pos h2, if_pos h2]
    by_cases h3 : (sumsL l).all (fun p => tot p.2) = true
    · rw [if_pos h3, if_pos h3]; exact Ev.now _
    · rw [if_neg h3, if_neg h3]; exact Ev.now _
  · rw [if_neg h2, if_neg h2]; exact Ev.now _
def mergeSpec (l : List Ln) : List Ln × Int := if (sumsSpec l).2 = 0 then (linesL (sumsSpec l).1, 0) else ([], (sumsSpec l).2)
theorem merge_ev (l : List Ln) : Ev (fun k => payslip_Merge.f k l) (mergeSpec l) := by
  unfold payslip_Merge.f mergeSpec
  refine Ev.bind (sums_ev l) ?_
  by_cases h : (sumsSpec l).2 = 0
  · rw [if_pos h, if_pos h]; exact Ev.now _
  · rw [if_neg h, if_neg h]; exact Ev.now _
/-! ### the reference -/
def toLs (m : List (Pr Int Str × Int)) : List Ln := m.map toL
theorem rdL_mid (pre : List Ln) (x : Ln) (suf : List Ln) : rd_T56 (pre ++ x :: suf) (pre.length : Int) = x := by
  simp [rd_T56, List.getD_eq_getElem?_getD]
theorem lenL (pre : List Ln) (x : Ln) : ((pre ++ [x]).length : Int) = (pre.length : Int) + 1 := by simp
theorem same32_loop : ∀ (suf pre : List Ln), pre.length + suf.length ≤ 1000000 → Ev (fun k => payrollref32_Same.l0 k (pre ++ suf) (pre ++ suf) (pre.length : Int)) true := by
  intro suf
  induction suf with
  | nil =>
    intro pre _
    refine Ev.step (f := fun _ => some true) (fun k => ?_) (Ev.now _)
    simp only [payrollref32_Same.l0]
    rw [if_neg (by simp)]
  | cons x suf ih =>
    intro pre hl
    have h := ih (pre ++ [x]) (by simp at hl ⊢; omega)
    rw [List.append_assoc, List.singleton_append] at h
    refine Ev.step (fun k => ?_) h
    simp only [payrollref32_Same.l0]
    simp only [List.length_cons] at hl
    rw [if_pos (by simp; omega), if_pos (by omega), if_pos (by simp; omega), if_neg (by simp), wrapid (by omega) (by omega), lenL]
theorem same32_self (l : List Ln) (hl : l.length ≤ 1000000) : Ev (fun k => payrollref32_Same.f k l l) true := by
  unfold payrollref32_Same.f
  exact Ev.congr (fun k => if_pos rfl) (same32_loop l [] (by simpa using hl))
end Go.Proofs.Ytdlljjglmcpniaa.Lib34
