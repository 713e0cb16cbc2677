/- Booking two parts of a book and merging gives the entries of the whole book, and the balances of the accounts are those of both parts together: for every book that a deck draws. -/
import Derived.Test.YtfakedchahildaaLib44e
import Derived.Test.YtfakedchahildaaQx14
import Derived.Test.YtfakedchahildaaQx15
namespace Go.Proofs.Ytfakedchahildaa.Pure
open Go.RowKit Go.Proofs.Ytfakedchahildaa.Q Go.Proofs.YtfakedchahildaaW.PrintWords Go.Proofs.YtfakedchahildaaW.PrintLast Go.Proofs.Ytfakedchahildaa.DeckLib Go.Proofs.Ytfakedchahildaa.ListKit Go.Proofs.Ytfakedchahildaa.MapKit Go.Proofs.Ytfakedchahildaa.Lib34 Go.Proofs.Ytfakedchahildaa.Lib35 Go.Proofs.Ytfakedchahildaa.Lib44
def asofL (a : Int) (l : List Ps) : List Ps := l.filter (fun p => decide (p.f0 ≤ a))
theorem asof_loop (l : List Ps) (a : Int) (hlen : l.length ≤ 65536) : ∀ (suf pre acc : List Ps), l = pre ++ suf → acc.length ≤ pre.length → Ev (fun k => payrollref35_AsOf.l0 k l a acc (pre.length : Int)) (acc ++ asofL a suf) := by
  intro suf
  induction suf with
  | nil =>
    intro pre acc h hacc
    refine Ev.step (f := fun _ => some acc) (fun k => ?_) (by rw [show asofL a [] = [] from rfl, List.append_nil]; exact Ev.now _)
    simp only [payrollref35_AsOf.l0]
    rw [if_neg (by rw [h]; simp)]
  | cons x suf ih =>
    intro pre acc h hacc
    have hln : l.length = pre.length + suf.length + 1 := by rw [h]; simp; omega
    have hrd : rd_T28 l (pre.length : Int) = x := by rw [h]; exact rdP_mid pre x suf
    by_cases c : x.f0 ≤ a
    · have h2 := ih (pre ++ [x]) (acc ++ [x]) (by rw [h]; simp) (by simp; omega)
      have e : asofL a (x :: suf) = x :: asofL a suf := by unfold asofL; rw [List.filter_cons_of_pos (by simpa using c)]
      rw [List.append_assoc, List.singleton_append, ← e] at h2
      refine Ev.step (fun k => ?_) h2
      simp only [payrollref35_AsOf.l0]
      rw [if_pos (by omega), if_pos (by omega), hrd, if_pos c, if_pos (by omega), wrapid (x := (pre.length : Int) + 1) (by omega) (by omega), lenP]
    · have h2 := ih (pre ++ [x]) acc (by rw [h]; simp) (by simp; omega)
      have e : asofL a (x :: suf) = asofL a suf := by unfold asofL; rw [List.filter_cons_of_neg (by simpa using c)]
      rw [← e] at h2
      refine Ev.step (fun k => ?_) h2
      simp only [payrollref35_AsOf.l0]
      rw [if_pos (by omega), if_pos (by omega), hrd, if_neg c, wrapid (x := (pre.length : Int) + 1) (by omega) (by omega), lenP]
theorem asof_ev (l : List Ps) (a : Int) (h : bookB l = true) : Ev (fun k => payrollref35_AsOf.f k l a) (asofL a l) := by
  unfold payrollref35_AsOf.f
  refine Ev.bind (rbook_ev l) ?_
  rw [h]
  exact Ev.congr (fun k => if_pos rfl) (asof_loop l a (book_parts h).1 l [] [] rfl (Nat.le_refl _))
/-- A book in order begins with the postings of the runs up to a run. -/
theorem asof_none (a : Int) : ∀ (l : List Ps) (q : Int), runsUp (some q) l = true → a < q → asofL a l = []
  | [], _, _, _ => rfl
  | p :: r, q, h, hq => by
    simp only [runsUp, Bool.and_eq_true] at h
    have h1 : q ≤ p.f0 := of_decide_eq_true h.1
    unfold asofL
    rw [List.filter_cons_of_neg (by simp; omega)]
    exact asof_none a r p.f0 h.2 (by omega)
theorem asof_prefix (a : Int) : ∀ (l : List Ps) (prev : Option Int), runsUp prev l = true → ∃ s, l = asofL a l ++ s
  | [], _, _ => ⟨[], rfl⟩
  | p :: r, prev, h => by
    simp only [runsUp, Bool.and_eq_true] at h
    by_cases c : p.f0 ≤ a
    · obtain ⟨s, hs⟩ := asof_prefix a r (some p.f0) h.2
      refine ⟨s, ?_⟩
      have e : asofL a (p :: r) = p :: asofL a r := by unfold asofL; rw [List.filter_cons_of_pos (by simpa using c)]
      rw [e, List.cons_append, ← hs]
    · refine ⟨p :: r, ?_⟩
      have e : asofL a (p :: r) = [] := by
        have h2 := asof_none a r p.f0 h.2 (by omega)
        unfold asofL at h2 ⊢
        rw [List.filter_cons_of_neg (by simpa using c), h2]
      rw [e]; rfl
theorem runsUp_parts : ∀ (a b : List Ps) (prev : Option Int), runsUp prev (a ++ b) = true → runsUp prev a = true ∧ runsUp none b = true
  | [], b, prev, h => by
    refine ⟨rfl, ?_⟩
    cases b with
    | nil => rfl
    | cons q r =>
      rw [List.nil_append] at h
      simp only [runsUp, Bool.and_eq_true] at h ⊢
      exact ⟨rfl, h.2⟩
  | p :: r, b, prev, h => by
    simp only [List.cons_append, runsUp, Bool.and_eq_true] at h ⊢
    have h2 := runsUp_parts r b (some p.f0) h.2
    exact ⟨⟨h.1, h2.1⟩, h2.2⟩
theorem LedgerDivides : payrolllaw44_LedgerDivides.Pure := by
  intro l n _ _ _ _
  refine Ev.rounds (g := fun k => payrolllaw44_LedgerDivides.f k l n) ?_
  unfold payrolllaw44_LedgerDivides.f paygen_New.f
  simp only [Option.bind_some]
  obtain ⟨b, run, at2, hb, hd, hrun, hlen, _, _⟩ := book_ok l 6 (by omega) 0 (by omega) (by omega)
  refine Ev.bind hb ?_
  obtain ⟨t, ht, t0, t1⟩ := mod_ok n 12 (by omega) (by omega)
  have ht' : paygen_Mod.f n 12 = some t := ht
  rw [ht']
  simp only [Option.bind_some]
  have hbk := hd.book (by omega)
  have hps : ∀ p ∈ b, PostS 1000000 p := fun p hp => drawn_post (hd.each p hp)
  refine Ev.bind (asof_ev b t hbk) ?_
  obtain ⟨s, hs⟩ := asof_prefix t b none hd.up
  obtain ⟨x, hx⟩ : ∃ x, x = asofL t b := ⟨_, rfl⟩
  rw [← hx] at hs ⊢
  have hup := runsUp_parts x s none (by rw [← hs]; exact hd.up)
  have hxl : x.length ≤ b.length := by rw [hs]; simp
  have hsl : s.length ≤ b.length := by rw [hs]; simp
  have hxp : ∀ p ∈ x, Drawn1 p := fun p hp => hd.each p (by rw [hs]; exact List.mem_append_left _ hp)
  have hsp : ∀ p ∈ s, Drawn1 p := fun p hp => hd.each p (by rw [hs]; exact List.mem_append_right _ hp)
  have mk : ∀ z : List Ps, (∀ p ∈ z, Drawn1 p) → runsUp none z = true → z.length ≤ 65536 → bookB z = true := by
    intro z h1 h2 h3
    unfold bookB
    rw [decide_eq_true h3, h2, List.all_eq_true.2 fun p hp => (h1 p hp).1]; rfl
  refine Ev.bind wages_ev (Ev.bind (entries_small x (mk x hxp hup.1 (by omega)) (fun p hp => drawn_post (hxp p hp)) (by omega)) ?_)
  refine Ev.bind wages_ev ?_
  refine Ev.congr (fun k => (if_pos (by omega)).trans (if_pos (by omega))) ?_
  have hdrop : b.drop ((x.length : Int)).toNat = s := by rw [Int.toNat_natCast]; conv => lhs; rw [hs]
                                                         exact List.drop_left
  rw [hdrop]
  refine Ev.bind (entries_small s (mk s hsp hup.2 (by omega)) (fun p hp => drawn_post (hsp p hp)) (by omega)) ?_
  refine Ev.bind wages_ev (Ev.bind (entries_small b hbk hps (by omega)) ?_)
  simp only [Option.bind_some, List.nil_append, List.length_nil, Nat.zero_add]
  obtain ⟨A, hA⟩ : ∃ A, A = x.flatMap entD := ⟨_, rfl⟩
  obtain ⟨B, hB⟩ : ∃ B, B = s.flatMap entD := ⟨_, rfl⟩
  have hC : b.flatMap entD = A ++ B := by rw [hA, hB, ← List.flatMap_append, ← hs]
  rw [hC, ← hA, ← hB]
  have sA : SmallB 1000000 A := by rw [hA]; exact flat_small (by omega) x fun p hp => drawn_post (hxp p hp)
  have sB : SmallB 1000000 B := by rw [hB]; exact flat_small (by omega) s fun p hp => drawn_post (hsp p hp)
  have lA : A.length ≤ 2 * x.length := by rw [hA]; exact flat_len x
  have lB : B.length ≤ 2 * s.length := by rw [hB]; exact flat_len s
  have sAB := sA.append sB
  have lAB : (A ++ B).length ≤ 200 := by rw [List.length_append]; omega
  have mA := (merged_small (c := 1000000) (by omega) A sA (by omega)).mono (d := 100000000) (by omega)
  have mB := (merged_small (c := 1000000) (by omega) B sB (by omega)).mono (d := 100000000) (by omega)
  have mC := (merged_small (c := 1000000) (by omega) (A ++ B) sAB (by omega)).mono (d := 200000000) (by omega)
  have kA := bookedL_len A
  have kB := bookedL_len B
  have kC := bookedL_len (A ++ B)
  have e1 := merge_small (c := 100000000) (by omega) (bookedL (sumsB B) ++ bookedL (sumsB A)) (mB.append mA) (by rw [List.length_append]; omega) (by rw [List.length_append]; omega)
  have e2 := trial_small (c := 100000000) (by omega) (bookedL (sumsB A) ++ bookedL (sumsB B)) (mA.append mB) (by rw [List.length_append]; omega) (by rw [List.length_append]; omega)
  have e3 := trial_small (c := 200000000) (by omega) (bookedL (sumsB (A ++ B))) mC (by omega) (by omega)
  refine Ev.congr (fun k => (if_pos (by omega)).trans (if_pos (by omega))) (Ev.bind (merge_ev _) ?_)
  refine Ev.congr (fun k => (if_pos (by omega)).trans (if_pos (by omega))) ?_
  refine Ev.bind (trial_ev _ (by rw [List.length_append]; omega)) ?_
  refine Ev.bind (trial_ev _ (by omega)) ?_
  have f1 : bookedL (sumsB (bookedL (sumsB B) ++ bookedL (sumsB A))) = bookedL (sumsB (A ++ B)) := by
    refine keep_sums orderK toB fun k => ?_
    rw [sumG_append, sumG_append, sum_merged (c := 1000000) (by omega) A sA (by omega), sum_merged (c := 1000000) (by omega) B sB (by omega), Int.add_comm]
  have f2 : bookedL (sumsB ((bookedL (sumsB A) ++ bookedL (sumsB B)).map noRun)) = bookedL (sumsB ((bookedL (sumsB (A ++ B))).map noRun)) := by
    refine trial_ext fun k => ?_
    have h1 := acct_merged (c := 1000000) (by omega) A sA (by omega) k
    have h2 := acct_merged (c := 1000000) (by omega) B sB (by omega) k
    have h3 := acct_merged (c := 1000000) (by omega) (A ++ B) sAB (by omega) k
    rw [h3]
    unfold acctSum at h1 h2 ⊢
    rw [gsum_append, gsum_append, h1, h2]
  rw [e1, e2, e3, f1, f2]
  simp only [if_true]
  refine Ev.bind (same44_self _ (by omega)) ?_
  refine Ev.congr (fun k => if_pos rfl) (Ev.bind (same44_self _ (by have := bookedL_len ((bookedL (sumsB (A ++ B))).map noRun); rw [List.length_map] at this; omega)) ?_)
  exact Ev.congr (fun k => if_pos rfl) (Ev.bind awake_ev (Ev.now _))
end Go.Proofs.Ytfakedchahildaa.Pure
