/- The general ledger: package ledger and its reference answer the same. Plain Lean over the printed functions. -/
import Derived.Test.YtfakedchahildaaListKit3
import Derived.Test.YtfakedchahildaaDeckLib
import Derived.Test.YtfakedchahildaaQx2
import Derived.Test.YtfakedchahildaaQx7
import Derived.Test.YtfakedchahildaaQx8
import Derived.Test.YtfakedchahildaaQx11
namespace Go.Proofs.Ytfakedchahildaa.Lib44
open Go.RowKit Go.Proofs.Ytfakedchahildaa.Q Go.Proofs.YtfakedchahildaaW.PrintWords Go.Proofs.YtfakedchahildaaW.PrintLast Go.Proofs.Ytfakedchahildaa.MapKit Go.Proofs.Ytfakedchahildaa.ListKit Go.Proofs.Ytfakedchahildaa.DeckLib
abbrev Bk := S42
theorem awake_ev : Ev (fun k => payrolllaw44_awake.f k) true := Ev.of payrolllaw44_awake.mono (k := 60) (by decide +kernel)
theorem rdB_mid (pre : List Bk) (x : Bk) (suf : List Bk) : rd_T42 (pre ++ x :: suf) (pre.length : Int) = x := by
  simp [rd_T42, List.getD_eq_getElem?_getD]
theorem lenB (pre : List Bk) (x : Bk) : ((pre ++ [x]).length : Int) = (pre.length : Int) + 1 := by simp
theorem merge_ev (l : List Bk) : Ev (fun _ => ledger_Merge.f l) (mergeB l) := Ev.now _
/-! ### Trial -/
def noRun (x : Bk) : Bk := ⟨0, x.f1, x.f2⟩
def trialB (l : List Bk) : List Bk × Int := mergeB (l.map noRun)
theorem trial_loop (n : Int) : ∀ (suf pre : List Bk), ((pre ++ suf).length : Int) = n → n ≤ 1000000 → Ev (fun k => ledger_Trial.l0 k (pre.map noRun ++ suf) n (pre.length : Int)) (mergeB ((pre ++ suf).map noRun)) := by
  intro suf
  induction suf with
  | nil =>
    intro pre h hn
    refine Ev.step (f := fun _ => some (mergeB (pre.map noRun))) (fun k => ?_) (by simpa using Ev.now _)
    simp only [ledger_Trial.l0]
    rw [if_neg (by simp at h; omega), List.append_nil]
    rfl
  | cons x suf ih =>
    intro pre h hn
    have h2 := ih (pre ++ [x]) (by simpa using h) hn
    have hlen : n = pre.length + suf.length + 1 := by rw [← h]; simp; omega
    have hrd : rd_T42 (pre.map noRun ++ x :: suf) (pre.length : Int) = x := by
      have := rdB_mid (pre.map noRun) x suf
      rwa [List.length_map] at this
    rw [show pre ++ [x] ++ suf = pre ++ x :: suf by simp] at h2
    refine Ev.step (fun k => ?_) h2
    simp only [ledger_Trial.l0]
    rw [if_pos (by omega), if_pos (by omega), if_pos (by simp; omega), hrd, wrapid (x := (pre.length : Int) + 1) (by omega) (by omega), lenB, Int.toNat_natCast, List.set_append, List.length_map, if_neg (by omega), Nat.sub_self]
    simp [noRun]
theorem trial_ev (l : List Bk) (h : l.length ≤ 1000000) : Ev (fun k => ledger_Trial.f k l) (trialB l) := by
  unfold ledger_Trial.f trialB
  refine Ev.congr (fun k => ?_) (trial_loop (l.length : Int) l [] rfl (by omega))
  unfold api_Booked.f
  rw [if_pos (by omega), Option.bind_some]
  rfl
/-! ### Balanced -/
theorem bal_ev (l : List Bk) : Ev (fun _ => ledger_Balanced.f l) (balB l) := Ev.now _
/-! ### Same -/
theorem same44_loop : ∀ (suf pre : List Bk), pre.length + suf.length ≤ 1000000 → Ev (fun k => payrollref44_Same.l0 k (pre ++ suf) (pre ++ suf) (pre.length : Int)) true := by
  intro suf
  induction suf with
  | nil =>
    intro pre _
    refine Ev.step (f := fun _ => some true) (fun k => ?_) (Ev.now _)
    simp only [payrollref44_Same.l0]
    rw [if_neg (by simp)]
  | cons x suf ih =>
    intro pre hl
    have h := ih (pre ++ [x]) (by simp at hl ⊢; omega)
    rw [List.append_assoc, List.singleton_append] at h
    refine Ev.step (fun k => ?_) h
    simp only [payrollref44_Same.l0]
    simp only [List.length_cons] at hl
    rw [if_pos (by simp; omega), if_pos (by omega), if_pos (by simp; omega), if_neg (by simp), wrapid (by omega) (by omega), lenB]
theorem same44_self (l : List Bk) (hl : l.length ≤ 1000000) : Ev (fun k => payrollref44_Same.f k l l) true := by
  unfold payrollref44_Same.f
  exact Ev.congr (fun k => if_pos rfl) (same44_loop l [] (by simpa using hl))
end Go.Proofs.Ytfakedchahildaa.Lib44
