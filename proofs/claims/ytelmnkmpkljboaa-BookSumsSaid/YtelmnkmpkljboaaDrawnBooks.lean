/- Books as a deck draws them: small, valid, in order. What is undone cancels what was posted. Plain Lean. -/
import Derived.Test.YtelmnkmpkljboaaLib34s
import Derived.Test.YtelmnkmpkljboaaLib35b
import Derived.Test.YtelmnkmpkljboaaDeckBook
namespace Go.Proofs.Ytelmnkmpkljboaa.DeckLib
open Go.RowKit Go.Proofs.Ytelmnkmpkljboaa.Q Go.Proofs.YtelmnkmpkljboaaW.PrintWords Go.Proofs.YtelmnkmpkljboaaW.PrintLast Go.Proofs.Ytelmnkmpkljboaa.MapKit Go.Proofs.Ytelmnkmpkljboaa.ListKit Go.Proofs.Ytelmnkmpkljboaa.Lib17 Go.Proofs.Ytelmnkmpkljboaa.Lib34 Go.Proofs.Ytelmnkmpkljboaa.Lib35
theorem rdP_mem (l : List Ps) (i : Int) (h0 : 0 ≤ i) (h : i < (l.length : Int)) : rd_T27 l i ∈ l := by
  have hlt : i.toNat < l.length := by omega
  have e : rd_T27 l i = l[i.toNat] := by simp [rd_T27, List.getD_eq_getElem?_getD, List.getElem?_eq_getElem hlt]
  rw [e]
  exact List.getElem_mem hlt
def negP (b : Int) (p : Ps) : Ps := ⟨b, p.f1, p.f2, ⟨p.f3.f0, p.f3.f1, wrap64 (-p.f3.f2)⟩⟩
theorem undoL_eq (a b : Int) (l : List Ps) : undoL a b l = (l.filter (fun p => p.f0 == a)).map (negP b) := rfl
theorem neg_drawn {p : Ps} (h : Drawn1 p) : Drawn1 (negP 100 p) := by
  obtain ⟨hv, h1, h2, h3, h4, h5, h6, h7, h8⟩ := h
  have hw : wrap64 (-p.f3.f2) = -p.f3.f2 := wrap_id (by omega) (by omega)
  refine ⟨?_, by show (1 : Int) ≤ 100; omega, by show (100 : Int) ≤ 100; omega, h3, h4, h5, h6, ?_, ?_⟩
  · unfold validP formL formS tot at hv ⊢
    simp only [negP, hw]
    simp only [Bool.and_eq_true, decide_eq_true_eq] at hv ⊢
    refine ⟨by omega, ⟨hv.2.1.1, by omega, hv.2.1.2.2⟩, by have := hv.2.2; omega⟩
  · show -600000 ≤ wrap64 (-p.f3.f2); omega
  · show wrap64 (-p.f3.f2) ≤ 600000; omega
theorem runsUp_filter (f : Ps → Bool) : ∀ (l : List Ps) (prev q : Option Int), (∀ n, okAfter prev n = true → okAfter q n = true) → runsUp prev l = true → runsUp q (l.filter f) = true := by
  intro l
  induction l with
  | nil => intro _ _ _ _; rfl
  | cons p r ih =>
    intro prev q hq h
    simp only [runsUp, Bool.and_eq_true] at h
    by_cases c : f p = true
    · rw [List.filter_cons_of_pos c]
      simp only [runsUp, Bool.and_eq_true]
      exact ⟨hq _ h.1, ih (some p.f0) (some p.f0) (fun _ hn => hn) h.2⟩
    · rw [List.filter_cons_of_neg c]
      refine ih (some p.f0) q (fun n hn => ?_) h.2
      have h1 := hq _ h.1
      have h2 : p.f0 ≤ n := of_decide_eq_true hn
      cases q with
      | none => rfl
      | some m => exact decide_eq_true (Int.le_trans (of_decide_eq_true h1) h2)
theorem runsUp_tail : ∀ (c a : List Ps), runsUp none a = true → (∀ q ∈ a, q.f0 ≤ 100) → (∀ x ∈ c, x.f0 = 100) → runsUp none (a ++ c) = true
  | [], a, h, _, _ => by rw [List.append_nil]; exact h
  | x :: r, a, h, h1, h2 => by
    have hx := h2 x List.mem_cons_self
    rw [show a ++ x :: r = (a ++ [x]) ++ r by simp]
    refine runsUp_tail r (a ++ [x]) (runsUp_snoc a none x h (fun q hq => by rw [hx]; exact h1 q hq) rfl) (fun q hq => ?_) (fun y hy => h2 y (List.mem_cons_of_mem _ hy))
    rcases List.mem_append.1 hq with hq | hq
    · exact h1 q hq
    · rw [List.mem_singleton] at hq; subst hq; omega
/-- A small book of drawn postings. -/
structure SBook (l : List Ps) : Prop where
  each : ∀ p ∈ l, Drawn1 p
  up : runsUp none l = true
  len : l.length ≤ 100
theorem SBook.book {l : List Ps} (h : SBook l) : bookB l = true := by
  unfold bookB
  rw [decide_eq_true (by have := h.len; omega), h.up]
  have : l.all validP = true := List.all_eq_true.2 fun p hp => (h.each p hp).1
  rw [this]; rfl
theorem SBook.filter {l : List Ps} (h : SBook l) (f : Ps → Bool) : SBook (l.filter f) := ⟨fun p hp => h.each p (List.mem_filter.1 hp).1, runsUp_filter f l none none (fun _ hn => hn) h.up, Nat.le_trans (List.length_filter_le _ _) h.len⟩
theorem undo_len (a b : Int) (l : List Ps) : (undoL a b l).length ≤ l.length := by rw [undoL_eq, List.length_map]; exact List.length_filter_le _ _
theorem undo_each {a : Int} {l : List Ps} (h : ∀ p ∈ l, Drawn1 p) : ∀ p ∈ undoL a 100 l, Drawn1 p ∧ p.f0 = 100 := by
  intro p hp
  rw [undoL_eq] at hp
  obtain ⟨q, hq, rfl⟩ := List.mem_map.1 hp
  exact ⟨neg_drawn (h q (List.mem_filter.1 hq).1), rfl⟩
theorem SBook.undo {l : List Ps} (h : SBook l) (a : Int) (hl : l.length ≤ 50) : SBook (l ++ undoL a 100 l) := by
  have hu := undo_each (a := a) h.each
  refine ⟨fun p hp => ?_, runsUp_tail _ l h.up (fun q hq => ?_) (fun x hx => (hu x hx).2), ?_⟩
  · rcases List.mem_append.1 hp with hp | hp
    · exact h.each p hp
    · exact (hu p hp).1
  · have := h.each q hq; exact this.2.2.1
  · rw [List.length_append]; have := undo_len a 100 l; omega
theorem fy {p : Ps} {a : Int} (r : List Ps) (c : (p.f0 == a) = true) : (p :: r).filter (fun p => p.f0 == a) = p :: r.filter (fun p => p.f0 == a) := List.filter_cons_of_pos (p := fun p : Ps => p.f0 == a) c
theorem fn {p : Ps} {a : Int} (r : List Ps) (c : ¬ (p.f0 == a) = true) : (p :: r).filter (fun p => p.f0 == a) = r.filter (fun p => p.f0 == a) := List.filter_cons_of_neg (p := fun p : Ps => p.f0 == a) c
theorem gy {p : Ps} {a : Int} (r : List Ps) (c : ¬ (p.f0 == a) = true) : (p :: r).filter (fun p => !(p.f0 == a)) = p :: r.filter (fun p => !(p.f0 == a)) := List.filter_cons_of_pos (p := fun p : Ps => !(p.f0 == a)) (by simpa using c)
theorem gn {p : Ps} {a : Int} (r : List Ps) (c : (p.f0 == a) = true) : (p :: r).filter (fun p => !(p.f0 == a)) = r.filter (fun p => !(p.f0 == a)) := List.filter_cons_of_neg (p := fun p : Ps => !(p.f0 == a)) (by simp [c])
/-! ### net amounts -/
def netC (e : Int) (p : Ps) : Int := if p.f1 = e ∧ p.f3.f0 = 9 then p.f3.f2 else 0
def netS (e : Int) (l : List Ps) : Int := (l.map (netC e)).sum
theorem netC_small {p : Ps} (h : Drawn1 p) (e : Int) : -600000 ≤ netC e p ∧ netC e p ≤ 600000 := by
  obtain ⟨_, _, _, _, _, _, _, h7, h8⟩ := h
  unfold netC
  split <;> omega
theorem netL_eq (e : Int) : ∀ (l : List Ps) (m : Int), (∀ p ∈ l, Drawn1 p) → -1000000000000 ≤ m - 600000 * l.length → m + 600000 * l.length ≤ 1000000000000 → netL e m l = m + netS e l
  | [], m, _, _, _ => by simp [netL, netS]
  | p :: r, m, h, h1, h2 => by
    have hp := h p List.mem_cons_self
    have hc := netC_small hp e
    have e1 : (((p :: r).length : Nat) : Int) = (r.length : Int) + 1 := by simp
    rw [e1] at h1 h2
    have : (if p.f1 = e ∧ p.f3.f0 = 9 then wrap64 (m + p.f3.f2) else m) = m + netC e p := by
      unfold netC at hc ⊢
      by_cases c : p.f1 = e ∧ p.f3.f0 = 9
      · rw [if_pos c, if_pos c]
        rw [if_pos c] at hc
        exact wrap_id (by omega) (by omega)
      · rw [if_neg c, if_neg c]; omega
    rw [netL, this, netL_eq e r (m + netC e p) (fun q hq => h q (List.mem_cons_of_mem _ hq)) (by omega) (by omega)]
    simp only [netS, List.map_cons, List.sum_cons]
    omega
theorem net_small {l : List Ps} (h : SBook l) (e : Int) : netSpec l e = netS e l := by
  unfold netSpec
  rw [h.book, if_pos rfl, netL_eq e l 0 h.each (by have := h.len; omega) (by have := h.len; omega)]
  omega
theorem net_undo (e a : Int) : ∀ l : List Ps, (∀ p ∈ l, Drawn1 p) → netS e (l ++ undoL a 100 l) = netS e (l.filter fun p => !(p.f0 == a))
  | [], _ => rfl
  | p :: r, h => by
    have ih := net_undo e a r fun q hq => h q (List.mem_cons_of_mem _ hq)
    obtain ⟨_, _, _, _, _, _, _, h7, h8⟩ := h p List.mem_cons_self
    rw [undoL_eq] at ih ⊢
    simp only [netS, List.map_append, List.sum_append, List.map_cons, List.sum_cons, List.cons_append] at ih ⊢
    by_cases c : (p.f0 == a) = true
    · rw [fy r c, gn r c]
      simp only [List.map_cons, List.sum_cons]
      have : netC e (negP 100 p) = -netC e p := by
        unfold netC negP
        rw [wrap_id (by omega) (by omega)]
        dsimp only
        split <;> omega
      omega
    · rw [fn r c, gy r c]
      simp only [List.map_cons, List.sum_cons]
      omega
/-! ### results -/
theorem linesResult_append (e q : Int) (a b : List Ps) : linesResult e q (a ++ b) = linesResult e q a ++ linesResult e q b := by simp [linesResult]
theorem linesResult_cons (e q : Int) (p : Ps) (r : List Ps) : linesResult e q (p :: r) = (if predResult e q p = true then [p.f3] else []) ++ linesResult e q r := by
  unfold linesResult
  by_cases c : predResult e q p = true
  · rw [List.filter_cons_of_pos c, if_pos c]; rfl
  · rw [List.filter_cons_of_neg c, if_neg c]; rfl
theorem lines_small {l : List Ps} (h : ∀ p ∈ l, Drawn1 p) (e q : Int) : SmallL 600000 (linesResult e q l) := by
  intro x hx
  obtain ⟨p, hp, rfl⟩ := List.mem_map.1 hx
  obtain ⟨hv, _, _, _, _, _, _, h7, h8⟩ := h p (List.mem_filter.1 hp).1
  unfold validP at hv
  simp only [Bool.and_eq_true] at hv
  exact ⟨hv.2.1, h7, h8⟩
theorem linesResult_len (e q : Int) (l : List Ps) : (linesResult e q l).length ≤ l.length := by unfold linesResult; rw [List.length_map]; exact List.length_filter_le _ _
theorem result_small {l : List Ps} (h : SBook l) (e q : Int) : resultSpec l e q = linesL (sumsL (linesResult e q l)) := by
  have hl := linesResult_len e q l
  have := h.len
  unfold resultSpec
  rw [h.book, if_pos rfl, merge_small (c := 600000) (by omega) _ (lines_small h.each e q) (by omega) (by omega)]
theorem resultSpec_len (l : List Ps) (e q : Int) (hl : l.length ≤ 1000000) : (resultSpec l e q).length ≤ 1000000 := by
  unfold resultSpec
  split
  · have h1 := mergeSpec_len (linesResult e q l); have h2 := linesResult_len e q l; omega
  · simp
theorem sum_undo (e q a : Int) (k : Pr Int Str) : ∀ l : List Ps, (∀ p ∈ l, Drawn1 p) → sumG keyL amtL (linesResult e q (l ++ undoL a 100 l)) k = sumG keyL amtL (linesResult e q (l.filter fun p => !(p.f0 == a))) k
  | [], _ => rfl
  | p :: r, h => by
    have ih := sum_undo e q a k r fun q hq => h q (List.mem_cons_of_mem _ hq)
    obtain ⟨_, _, _, _, _, _, _, h7, h8⟩ := h p List.mem_cons_self
    rw [linesResult_append, sumG_append, undoL_eq] at ih ⊢
    rw [linesResult_cons, sumG_append]
    have hs : sumG keyL amtL (if predResult e q (negP 100 p) = true then [(negP 100 p).f3] else []) k = -sumG keyL amtL (if predResult e q p = true then [p.f3] else []) k := by
      rw [show predResult e q (negP 100 p) = predResult e q p from rfl]
      by_cases c : predResult e q p = true
      · rw [if_pos c, if_pos c]
        simp only [sumG, List.map_cons, List.map_nil, List.sum_cons, List.sum_nil]
        have hw : amtL (negP 100 p).f3 = -amtL p.f3 := wrap_id (by omega) (by omega)
        rw [hw, show keyL (negP 100 p).f3 = keyL p.f3 from rfl]
        by_cases ck : keyL p.f3 = k
        · rw [if_pos ck, if_pos ck]; omega
        · rw [if_neg ck, if_neg ck]; omega
      · rw [if_neg c, if_neg c]; rfl
    by_cases c : (p.f0 == a) = true
    · rw [fy r c, List.map_cons, gn r c, linesResult_cons, sumG_append, hs, ← ih]
      omega
    · rw [fn r c, gy r c, linesResult_cons e q p (List.filter _ _), sumG_append, ← ih]
      omega
theorem result_undo {l : List Ps} (h : SBook l) (hl : l.length ≤ 50) (a e q : Int) : resultSpec (l ++ undoL a 100 l) e q = resultSpec (l.filter fun p => !(p.f0 == a)) e q := by
  rw [result_small (h.undo a hl), result_small (h.filter _)]
  exact lines_ext fun k => sum_undo e q a k l h.each
end Go.Proofs.Ytelmnkmpkljboaa.DeckLib
