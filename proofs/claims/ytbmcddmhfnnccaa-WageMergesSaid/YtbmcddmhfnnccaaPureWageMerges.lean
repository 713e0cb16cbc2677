/- Merge returns the specified sums or error, as the reference does: for elements of any content and for drawn ones. -/
import Derived.Test.YtbmcddmhfnnccaaDeck26a
import Derived.Test.YtbmcddmhfnnccaaLib26
import Derived.Test.YtbmcddmhfnnccaaQx10
import Derived.Test.YtbmcddmhfnnccaaQx14
namespace Go.Proofs.Ytbmcddmhfnnccaa.Pure
open Go.RowKit Go.Proofs.Ytbmcddmhfnnccaa.Q Go.Proofs.YtbmcddmhfnnccaaW.PrintWords Go.Proofs.YtbmcddmhfnnccaaW.PrintLast Go.Proofs.Ytbmcddmhfnnccaa.MapKit Go.Proofs.Ytbmcddmhfnnccaa.ListKit Go.Proofs.Ytbmcddmhfnnccaa.DeckLib Go.Proofs.Ytbmcddmhfnnccaa.Lib17 Go.Proofs.Ytbmcddmhfnnccaa.Lib26
theorem shortE_yes (l : List El) : ∃ b, Ev (fun k => paygen_ShortElements.f k l) b ∧ (b = true → l.length ≤ 140) := by
  unfold paygen_ShortElements.f
  by_cases h : (l.length : Int) > 140
  · exact ⟨false, Ev.congr (fun k => if_pos h) (Ev.now _), fun e => by cases e⟩
  · have : ∀ (suf pre : List El), l = pre ++ suf → ∃ b, Ev (fun k => paygen_ShortElements.l0 k l (pre.length : Int)) b := by
      intro suf
      induction suf with
      | nil =>
        intro pre h
        refine ⟨true, Ev.step (f := fun _ => some true) (fun k => ?_) (Ev.now _)⟩
        simp only [paygen_ShortElements.l0]
        rw [if_neg (by rw [h]; simp)]
      | cons x suf ih =>
        intro pre h
        obtain ⟨b, hb⟩ := ih (pre ++ [x]) (by rw [h]; simp)
        have hln : l.length = pre.length + suf.length + 1 := by rw [h]; simp; omega
        have hrd : rd_T44 l (pre.length : Int) = x := by rw [h]; exact rdE_mid pre x suf
        by_cases c : (x.f0.size : Int) > 60
        · refine ⟨false, Ev.step (f := fun _ => some false) (fun k => ?_) (Ev.now _)⟩
          simp only [paygen_ShortElements.l0]
          rw [if_pos (by omega), if_pos (by omega), hrd, if_pos c]
        · refine ⟨b, Ev.step (fun k => ?_) hb⟩
          simp only [paygen_ShortElements.l0]
          rw [if_pos (by omega), if_pos (by omega), hrd, if_neg c, wrapid (x := (pre.length : Int) + 1) (by omega) (by omega), lenE]
    obtain ⟨b, hb⟩ := this l [] rfl
    exact ⟨b, Ev.congr (fun k => if_neg h) hb, fun _ => by omega⟩
theorem merges_end (x0 x6 : List El) : Ev (fun k => (wage_Merge.f k x0).bind fun bt360 => ((payrollref26_Merge.f k x0).bind fun bt364 => ((wage_Merge.f k x6).bind fun bt368 => ((payrollref26_Merge.f k x6).bind fun bt372 => (if bt360.2 = bt364.2 then ((payrollref26_Same.f k bt360.1 bt364.1).bind fun t376 => (if t376 = true then (if bt368.2 = bt372.2 then ((payrollref26_Same.f k bt368.1 bt372.1).bind fun t377 => (if t377 = true then ((payrolllaw26_awake.f k).bind fun t378 => (some t378)) else (none))) else (none)) else (none))) else (none)))))) true := by
  refine Ev.bind (merge_ev x0) (Ev.bind (rmerge_ev x0) (Ev.bind (merge_ev x6) (Ev.bind (rmerge_ev x6) ?_)))
  refine Ev.congr (fun k => if_pos rfl) (Ev.bind (same26_self _ (by have := mergeE_len x0; omega)) ?_)
  refine Ev.congr (fun k => (if_pos rfl).trans (if_pos rfl)) (Ev.bind (same26_self _ (by have := mergeE_len x6; omega)) ?_)
  exact Ev.congr (fun k => if_pos rfl) (Ev.bind awake_ev (Ev.now _))
theorem merges_loop (l : List Int) (x0 : List El) : ∀ (j : Nat) (x6 : List El) (i at_ : Int), i + j = 12 → 0 ≤ i → x6.length ≤ i → 0 ≤ at_ → at_ ≤ 10 * i → Ev (fun k => payrolllaw26_WageMerges.l0 k x0 x6 i l at_) true := by
  intro j
  induction j with
  | zero =>
    intro x6 i at_ hi h0 hx ha hb
    refine Ev.step (fun k => ?_) (merges_end x0 x6)
    simp only [payrolllaw26_WageMerges.l0]
    rw [if_neg (by omega)]
  | succ j ih =>
    intro x6 i at_ hi h0 hx ha hb
    by_cases hc : at_ < (l.length : Int)
    · obtain ⟨s, hs⟩ := code_some l at_ ha (by omega)
      obtain ⟨a, t, hA, a0, a1, ht⟩ := amount_ok l (at_ + 1) (by omega) (by omega)
      obtain ⟨q, hq, _⟩ := pick_ok l t [1, -1] (by omega) (by omega) (by simp) (by simp)
      refine Ev.step (fun k => ?_) (ih (x6 ++ [⟨s, wrap64 (a * q)⟩]) (i + 1) (t + 1) (by omega) (by omega) (by simp; omega) (by omega) (by omega))
      simp only [payrolllaw26_WageMerges.l0]
      unfold paygen_Deck_Left.f
      rw [if_pos (by omega), Option.bind_some, decide_eq_true hc, if_pos rfl, hs, Option.bind_some, hA, Option.bind_some, hq, Option.bind_some, if_pos (by omega), wrapid (x := i + 1) (by omega) (by omega)]
    · refine Ev.step (fun k => ?_) (merges_end x0 x6)
      simp only [payrolllaw26_WageMerges.l0]
      unfold paygen_Deck_Left.f
      rw [if_pos (by omega), Option.bind_some, decide_eq_false hc, if_neg (by simp)]
theorem WageMerges : ∀ (raw : List El) (l : List Int), ∃ k, payrolllaw26_WageMerges.f k raw l = some true := by
  intro raw l
  refine Ev.rounds (g := fun k => payrolllaw26_WageMerges.f k raw l) ?_
  unfold payrolllaw26_WageMerges.f
  obtain ⟨b, hb, _⟩ := shortE_yes raw
  refine Ev.bind hb ?_
  cases b with
  | false => exact Ev.congr (fun k => if_neg (by simp)) (Ev.bind awake_ev (Ev.now _))
  | true =>
    refine Ev.congr (fun k => if_pos rfl) ?_
    unfold paygen_New.f
    simp only [Option.bind_some]
    exact merges_loop l raw 12 [] 0 0 (by omega) (by omega) (by simp) (by omega) (by omega)
end Go.Proofs.Ytbmcddmhfnnccaa.Pure
