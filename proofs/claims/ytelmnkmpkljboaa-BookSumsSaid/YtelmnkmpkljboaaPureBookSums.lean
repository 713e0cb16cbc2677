/- A result is the sum of what was posted earlier and later; the results of all are the period's: for all drawn books. -/
import Derived.Test.YtelmnkmpkljboaaLib34t
import Derived.Test.YtelmnkmpkljboaaDrawnBooks
import Derived.Test.YtelmnkmpkljboaaQx15
import Derived.Test.YtelmnkmpkljboaaQx14
import Derived.Test.YtelmnkmpkljboaaQx3
namespace Go.Proofs.Ytelmnkmpkljboaa.Pure
open Go.RowKit Go.Proofs.Ytelmnkmpkljboaa.Q Go.Proofs.YtelmnkmpkljboaaW.PrintWords Go.Proofs.YtelmnkmpkljboaaW.PrintLast Go.Proofs.Ytelmnkmpkljboaa.MapKit Go.Proofs.Ytelmnkmpkljboaa.ListKit Go.Proofs.Ytelmnkmpkljboaa.DeckLib Go.Proofs.Ytelmnkmpkljboaa.Lib34 Go.Proofs.Ytelmnkmpkljboaa.Lib35
def periodSpec (l : List Ps) (q : Int) : List Ln := if bookB l = true then (mergeSpec (linesPeriod q l)).1 else []
theorem period_ev (l : List Ps) (q : Int) : Ev (fun k => book_Period.f k l q) (periodSpec l q) := by
  unfold book_Period.f periodSpec
  refine Ev.bind (book_ev l) ?_
  by_cases h : bookB l = true
  · rw [if_pos h]
    refine Ev.congr (fun k => if_pos h) (Ev.bind (merge_ev _) ?_)
    rw [mergeSpec_or]
    by_cases h2 : (mergeSpec (linesPeriod q l)).2 = 0
    · rw [if_pos h2, if_pos h2]; exact Ev.now _
    · rw [if_neg h2, if_neg h2]; exact Ev.now _
  · rw [if_neg h]; exact Ev.congr (fun k => if_neg h) (Ev.now _)
theorem asof_ev (l : List Ps) (a : Int) : Ev (fun k => book_AsOf.f k l a) (asofSpec l a) := by
  have loop : l.length ≤ 65536 → ∀ (suf pre acc : List Ps), l = pre ++ suf → acc.length ≤ pre.length → Ev (fun k => book_AsOf.l0 k a acc l (l.length : Int) (pre.length : Int)) (acc ++ asofL a suf) := by
    intro hlen suf
    induction suf with
    | nil =>
      intro pre acc h _
      refine Ev.step (f := fun _ => some acc) (fun k => ?_) (by rw [show asofL a [] = [] from rfl, List.append_nil]; exact Ev.now _)
      simp only [book_AsOf.l0]
      rw [if_neg (by rw [h]; simp)]
    | cons x suf ih =>
      intro pre acc h hacc
      have hln : l.length = pre.length + suf.length + 1 := by rw [h]; simp; omega
      have hrd : rd_T27 l (pre.length : Int) = x := by rw [h]; exact rdP_mid pre x suf
      by_cases c : x.f0 ≤ a
      · have h2 := ih (pre ++ [x]) (acc ++ [x]) (by rw [h]; simp) (by simp; omega)
        rw [show acc ++ asofL a (x :: suf) = acc ++ [x] ++ asofL a suf by simp [asofL, c]]
        refine Ev.step (fun k => ?_) h2
        simp only [book_AsOf.l0]
        rw [if_pos (by omega), if_pos (by omega), if_pos (by omega), hrd, if_pos c, if_pos (by omega), wrap_id (x := (pre.length : Int) + 1) (by omega) (by omega), lenP]
      · have h2 := ih (pre ++ [x]) acc (by rw [h]; simp) (by simp; omega)
        rw [show acc ++ asofL a (x :: suf) = acc ++ asofL a suf by simp [asofL, c]]
        refine Ev.step (fun k => ?_) h2
        simp only [book_AsOf.l0]
        rw [if_pos (by omega), if_pos (by omega), if_pos (by omega), hrd, if_neg c, wrap_id (x := (pre.length : Int) + 1) (by omega) (by omega), lenP]
  unfold book_AsOf.f asofSpec
  refine Ev.bind (book_ev l) ?_
  by_cases h : bookB l = true
  · rw [if_pos h]
    exact Ev.congr (fun k => if_pos h) (loop (book_parts h).1 l [] [] rfl (Nat.le_refl _))
  · rw [if_neg h]; exact Ev.congr (fun k => if_neg h) (Ev.now _)
/-- What is posted by run a is the beginning of a book. -/
theorem asof_take (a : Int) : ∀ (l : List Ps) (prev : Option Int), runsUp prev l = true → asofL a l = l.take (asofL a l).length
  | [], _, _ => rfl
  | p :: r, prev, h => by
    simp only [runsUp, Bool.and_eq_true] at h
    by_cases c : p.f0 ≤ a
    · have e : asofL a (p :: r) = p :: asofL a r := by simp [asofL, c]
      rw [e, List.length_cons, List.take_succ_cons, ← asof_take a r _ h.2]
    · have hall : ∀ (r : List Ps) (m : Int), ¬ m ≤ a → runsUp (some m) r = true → asofL a r = [] := by
        intro r
        induction r with
        | nil => intro _ _ _; rfl
        | cons q r ih =>
          intro m hm hq
          simp only [runsUp, Bool.and_eq_true] at hq
          have h1 : m ≤ q.f0 := of_decide_eq_true hq.1
          have e : asofL a (q :: r) = asofL a r := by
            have : ¬ q.f0 ≤ a := by omega
            simp [asofL, this]
          rw [e]
          exact ih q.f0 (by omega) hq.2
      have e : asofL a (p :: r) = asofL a r := by simp [asofL, c]
      rw [e, hall r p.f0 c h.2]
      rfl
theorem linesP_small {l : List Ps} (h : ∀ p ∈ l, Drawn1 p) (q : Int) : SmallL 600000 (linesPeriod q l) := by
  intro x hx
  obtain ⟨p, hp, rfl⟩ := List.mem_map.1 hx
  obtain ⟨hv, _, _, _, _, _, _, h7, h8⟩ := h p (List.mem_filter.1 hp).1
  unfold validP at hv
  simp only [Bool.and_eq_true] at hv
  exact ⟨hv.2.1, h7, h8⟩
theorem linesP_len (q : Int) (l : List Ps) : (linesPeriod q l).length ≤ l.length := by unfold linesPeriod; rw [List.length_map]; exact List.length_filter_le _ _
theorem period_small {l : List Ps} (h : SBook l) (q : Int) : periodSpec l q = linesL (sumsL (linesPeriod q l)) := by
  have hl := linesP_len q l
  have := h.len
  unfold periodSpec
  rw [h.book, if_pos rfl, merge_small (c := 600000) (by omega) _ (linesP_small h.each q) (by omega) (by omega)]
theorem sum_three (q : Int) (k : Pr Int Str) : ∀ l : List Ps, (∀ p ∈ l, Drawn1 p) → sumG keyL amtL (linesPeriod q l) k = sumG keyL amtL (linesResult 1 q l) k + sumG keyL amtL (linesResult 2 q l) k + sumG keyL amtL (linesResult 3 q l) k
  | [], _ => rfl
  | p :: r, h => by
    have ih := sum_three q k r fun x hx => h x (List.mem_cons_of_mem _ hx)
    obtain ⟨_, _, _, h3, h4, _, _, _, _⟩ := h p List.mem_cons_self
    have e : linesPeriod q (p :: r) = (if predPeriod q p = true then [p.f3] else []) ++ linesPeriod q r := by
      unfold linesPeriod
      by_cases c : predPeriod q p = true
      · rw [List.filter_cons_of_pos c, if_pos c]; rfl
      · rw [List.filter_cons_of_neg c, if_neg c]; rfl
    rw [e, linesResult_cons, linesResult_cons, linesResult_cons, sumG_append, sumG_append, sumG_append, sumG_append]
    have hp : ∀ e : Int, predResult e q p = (p.f1 == e && predPeriod q p) := fun e => rfl
    rw [hp, hp, hp]
    obtain ⟨s, hs⟩ : ∃ s, s = sumG keyL amtL [p.f3] k := ⟨_, rfl⟩
    have hz : sumG keyL amtL ([] : List Ln) k = 0 := rfl
    cases predPeriod q p with
    | false => simp only [Bool.and_false, Bool.false_eq_true, if_false, hz]; omega
    | true =>
      simp only [Bool.and_true, if_true]
      have : p.f1 = 1 ∨ p.f1 = 2 ∨ p.f1 = 3 := by omega
      rcases this with c | c | c <;> (rw [c]; simp only [← hs, hz, if_true, if_false, show ((1 : Int) == 1) = true from rfl, show ((1 : Int) == 2) = false from rfl, show ((1 : Int) == 3) = false from rfl, show ((2 : Int) == 1) = false from rfl, show ((2 : Int) == 2) = true from rfl, show ((2 : Int) == 3) = false from rfl, show ((3 : Int) == 1) = false from rfl, show ((3 : Int) == 2) = false from rfl, show ((3 : Int) == 3) = true from rfl, Bool.false_eq_true]; omega)
theorem R_small {l : List Ps} (h : SBook l) (e q : Int) : SmallL 60000000 (resultSpec l e q) ∧ (resultSpec l e q).length ≤ 100 ∧ ∀ k, sumG keyL amtL (resultSpec l e q) k = sumG keyL amtL (linesResult e q l) k := by
  have h1 := lines_small h.each e q
  have h2 := linesResult_len e q l
  have h3 := h.len
  have h4 := linesL_len (linesResult e q l)
  rw [result_small h]
  exact ⟨(merged_small (c := 600000) (by omega) _ h1 (by omega)).mono (by omega), by omega, fun k => sum_merged (c := 600000) (by omega) _ h1 (by omega) k⟩
theorem sums_merge {a b : List Ps} (h : SBook (a ++ b)) (ha : SBook a) (hb : SBook b) (e q : Int) : mergeSpec (resultSpec a e q ++ resultSpec b e q) = (resultSpec (a ++ b) e q, 0) := by
  obtain ⟨a1, a2, a3⟩ := R_small ha e q
  obtain ⟨b1, b2, b3⟩ := R_small hb e q
  rw [merge_small (c := 60000000) (by omega) _ (a1.append b1) (by rw [List.length_append]; omega) (by rw [List.length_append]; omega), result_small h]
  congr 1
  refine lines_ext fun k => ?_
  rw [sumG_append, a3, b3, linesResult_append, sumG_append]
theorem sums_l1 {b x y : List Ps} (hb : SBook b) (hx : SBook x) (hy : SBook y) (he : b = x ++ y) (q e : Int) (he1 : 1 ≤ e) (he2 : e ≤ 3) (acc : List Ln) (hacc : acc.length ≤ 1000) {r : Bool}
    (h : Ev (fun k => payrolllaw35_BookSums.l1 k b x y q (acc ++ resultSpec b e q) (e + 1)) r) : Ev (fun k => payrolllaw35_BookSums.l1 k b x y q acc e) r := by
  have lb := (R_small hb e q).2.1
  have lx := (R_small hx e q).2.1
  have ly := (R_small hy e q).2.1
  refine Ev.step (f := fun k => ((book_Result.f k b e q).bind fun t370 => ((book_Result.f k x e q).bind fun t373 => ((book_Result.f k y e q).bind fun t376 => (if t373.length + t376.length < 4398046511104 then ((payslip_Merge.f k (t373 ++ t376)).bind fun bt382 => (if bt382.2 = 0 then ((payrollref32_Same.f k t370 bt382.1).bind fun t386 => (if t386 = true then (if acc.length + t370.length < 4398046511104 then (payrolllaw35_BookSums.l1 k b x y q (acc ++ t370) (e + 1)) else (none)) else (none))) else (none))) else (none)))))) (fun k => ?_) ?_
  · simp only [payrolllaw35_BookSums.l1]
    rw [if_pos (by omega), wrap_id (x := e + 1) (by omega) (by omega)]
  · refine Ev.bind (result_ev b e q) (Ev.bind (result_ev x e q) (Ev.bind (result_ev y e q) ?_))
    refine Ev.congr (fun k => if_pos (by omega)) (Ev.bind (merge_ev _) ?_)
    rw [sums_merge (he ▸ hb) hx hy, ← he]
    refine Ev.congr (fun k => if_pos rfl) (Ev.bind (same32_self _ (by omega)) ?_)
    exact Ev.congr (fun k => (if_pos rfl).trans (if_pos (by omega))) h
theorem sums_l0 {b x y : List Ps} (hb : SBook b) (hx : SBook x) (hy : SBook y) (he : b = x ++ y) : ∀ (j : Nat), j ≤ 3 → Ev (fun k => payrolllaw35_BookSums.l0 k b x y (3 - (j : Int))) true := by
  intro j
  induction j with
  | zero =>
    intro _
    refine Ev.step (fun k => ?_) (Ev.bind awake_ev (Ev.now _))
    simp only [payrolllaw35_BookSums.l0]
    rw [if_neg (by omega)]
  | succ j ih =>
    intro hj
    have h2 := ih (by omega)
    obtain ⟨q, hq⟩ : ∃ q : Int, q = 3 - ((j + 1 : Nat) : Int) := ⟨_, rfl⟩
    rw [← hq]
    rw [show 3 - (j : Int) = q + 1 by omega] at h2
    refine Ev.step (f := fun k => payrolllaw35_BookSums.l1 k b x y q [] 1) (fun k => ?_) ?_
    · simp only [payrolllaw35_BookSums.l0]
      rw [if_pos (by omega)]
    · obtain ⟨s1, n1, k1⟩ := R_small hb 1 q
      obtain ⟨s2, n2, k2⟩ := R_small hb 2 q
      obtain ⟨s3, n3, k3⟩ := R_small hb 3 q
      refine sums_l1 hb hx hy he q 1 (by omega) (by omega) [] (by simp) ?_
      refine sums_l1 hb hx hy he q 2 (by omega) (by omega) _ (by simp; omega) ?_
      refine sums_l1 hb hx hy he q 3 (by omega) (by omega) _ (by simp; omega) ?_
      rw [List.nil_append]
      have hlen : (resultSpec b 1 q ++ resultSpec b 2 q ++ resultSpec b 3 q).length ≤ 300 := by simp; omega
      have hm : mergeSpec (resultSpec b 1 q ++ resultSpec b 2 q ++ resultSpec b 3 q) = (periodSpec b q, 0) := by
        rw [merge_small (c := 60000000) (by omega) _ ((s1.append s2).append s3) (by omega) (by omega), period_small hb]
        congr 1
        refine lines_ext fun k => ?_
        rw [sumG_append, sumG_append, k1, k2, k3, sum_three q k b hb.each]
      have hpl : (periodSpec b q).length ≤ 1000 := by
        rw [period_small hb]
        have h3 := linesL_len (linesPeriod q b)
        have h4 := linesP_len q b
        have h5 := hb.len
        omega
      refine Ev.step (f := fun k => ((payslip_Merge.f k (resultSpec b 1 q ++ resultSpec b 2 q ++ resultSpec b 3 q)).bind fun bt390 => (if bt390.2 = 0 then ((book_Period.f k b q).bind fun t394 => ((payrollref32_Same.f k bt390.1 t394).bind fun t397 => (if t397 = true then (payrolllaw35_BookSums.l0 k b x y (q + 1)) else (none)))) else (none)))) (fun k => ?_) ?_
      · simp only [payrolllaw35_BookSums.l1]
        rw [if_neg (by omega), wrap_id (x := q + 1) (by omega) (by omega)]
      · refine Ev.bind (merge_ev _) ?_
        rw [hm]
        refine Ev.congr (fun k => if_pos rfl) (Ev.bind (period_ev b q) (Ev.bind (same32_self _ (show (periodSpec b q).length ≤ 1000000 by omega)) ?_))
        exact Ev.congr (fun k => if_pos rfl) h2
theorem BookSums : payrolllaw35_BookSums.Pure := by
  intro l a1 _ _ _ _
  refine Ev.rounds (g := fun k => payrolllaw35_BookSums.f k l a1) ?_
  unfold payrolllaw35_BookSums.f paygen_New.f paygen_Mod.f
  simp only [Option.bind_some]
  obtain ⟨b, run, t, hc, hb, hr, hn, t0, t1⟩ := book_ok l 6 (by omega) 0 (by omega) (by omega)
  refine Ev.bind hc ?_
  obtain ⟨r, hr', h1, h2⟩ := mod_ok a1 12 (by omega) (by omega)
  rw [hr']
  simp only [Option.bind_some]
  have hS : SBook b := ⟨hb.each, hb.up, by omega⟩
  have hA : asofSpec b r = asofL r b := by unfold asofSpec; rw [hS.book, if_pos rfl]
  refine Ev.bind (asof_ev b r) ?_
  rw [hA]
  have hle : (asofL r b).length ≤ b.length := List.length_filter_le _ _
  have ht := asof_take r b none hS.up
  refine Ev.congr (fun k => (if_neg (by omega)).trans ((if_pos (by omega)).trans (if_pos (by omega)))) ?_
  rw [Int.toNat_natCast, ← ht]
  refine Ev.bind (same35_self _ (by omega)) ?_
  refine Ev.congr (fun k => if_pos rfl) ?_
  have hx : SBook (asofL r b) := hS.filter _
  have hy : SBook (b.drop (asofL r b).length) := by
    have e : b = b.take (asofL r b).length ++ b.drop (asofL r b).length := (List.take_append_drop _ _).symm
    refine ⟨fun p hp => hS.each p (List.mem_of_mem_drop hp), ?_, by rw [List.length_drop]; have := hS.len; omega⟩
    exact drop_up b _ none none (fun _ hn => hn) hS.up
  have h3 := sums_l0 hS hx hy (by conv => lhs; rw [← List.take_append_drop (asofL r b).length b]; rw [← ht]) 3 (by omega)
  simpa using h3
where
  drop_up : ∀ (l : List Ps) (n : Nat) (prev q : Option Int), (∀ m, okAfter prev m = true → okAfter q m = true) → runsUp prev l = true → runsUp q (l.drop n) = true
    | [], n, _, _, _, _ => by simp [runsUp]
    | p :: r, 0, prev, q, hq, h => by
      simp only [runsUp, Bool.and_eq_true, List.drop_zero] at h ⊢
      exact ⟨hq _ h.1, h.2⟩
    | p :: r, n + 1, prev, q, hq, h => by
      simp only [runsUp, Bool.and_eq_true] at h
      rw [List.drop_succ_cons]
      refine drop_up r n (some p.f0) q (fun m hm => ?_) h.2
      have h1 := hq _ h.1
      have h2 : p.f0 ≤ m := of_decide_eq_true hm
      cases q with
      | none => rfl
      | some z => exact decide_eq_true (Int.le_trans (of_decide_eq_true h1) h2)
end Go.Proofs.Ytelmnkmpkljboaa.Pure
