/- A run that is undone by a later one leaves results and nets as if it had never been: for all drawn books. -/
import Derived.Test.YtelmnkmpkljboaaDrawnBooks
import Derived.Test.YtelmnkmpkljboaaQx18
import Derived.Test.YtelmnkmpkljboaaQx3
namespace Go.Proofs.Ytelmnkmpkljboaa.Pure
open Go.RowKit Go.Proofs.Ytelmnkmpkljboaa.Q Go.Proofs.YtelmnkmpkljboaaW.PrintWords Go.Proofs.YtelmnkmpkljboaaW.PrintLast Go.Proofs.Ytelmnkmpkljboaa.DeckLib Go.Proofs.Ytelmnkmpkljboaa.Lib34 Go.Proofs.Ytelmnkmpkljboaa.Lib35
theorem rev_l2 (x y : List Ps) (hx : x.length ≤ 100) (hy : y.length ≤ 100) (e : Int) (h : ∀ q, resultSpec y e q = resultSpec x e q) (r : Bool) (hr : Ev (fun k => payrolllaw35_BookReverses.l1 k x y (wrap64 (e + 1))) r) : ∀ (j : Nat), j ≤ 3 → Ev (fun k => payrolllaw35_BookReverses.l2 k x y e (3 - (j : Int))) r := by
  intro j
  induction j with
  | zero =>
    intro _
    refine Ev.step (fun k => ?_) hr
    simp only [payrolllaw35_BookReverses.l2]
    rw [if_neg (by omega)]
  | succ j ih =>
    intro hj
    have h2 := ih (by omega)
    refine Ev.step (f := fun k => ((book_Result.f k y e (3 - ((j + 1 : Nat) : Int))).bind fun t474 => ((book_Result.f k x e (3 - ((j + 1 : Nat) : Int))).bind fun t477 => ((payrollref32_Same.f k t474 t477).bind fun t480 => (if t480 = true then (payrolllaw35_BookReverses.l2 k x y e (3 - (j : Int))) else (none)))))) (fun k => ?_) ?_
    · simp only [payrolllaw35_BookReverses.l2]
      rw [if_pos (by omega), wrap_id (x := 3 - ((j + 1 : Nat) : Int) + 1) (by omega) (by omega), show 3 - ((j + 1 : Nat) : Int) + 1 = 3 - (j : Int) by omega]
    · refine Ev.bind (result_ev y e _) (Ev.bind (result_ev x e _) ?_)
      rw [h]
      exact Ev.bind (same32_self _ (resultSpec_len _ _ _ (by omega))) (Ev.congr (fun k => if_pos rfl) h2)
theorem rev_l1 (x y : List Ps) (hx : x.length ≤ 100) (hy : y.length ≤ 100) (hn : ∀ e, netSpec y e = netSpec x e) (h : ∀ e q, resultSpec y e q = resultSpec x e q) : ∀ (j : Nat), j ≤ 3 → Ev (fun k => payrolllaw35_BookReverses.l1 k x y (4 - (j : Int))) true := by
  intro j
  induction j with
  | zero =>
    intro _
    refine Ev.step (fun k => ?_) (Ev.bind awake_ev (Ev.now _))
    simp only [payrolllaw35_BookReverses.l1]
    rw [if_neg (by omega)]
  | succ j ih =>
    intro hj
    have h2 := ih (by omega)
    refine Ev.step (f := fun k => ((book_Net.f k y (4 - ((j + 1 : Nat) : Int))).bind fun t472 => ((book_Net.f k x (4 - ((j + 1 : Nat) : Int))).bind fun t473 => (if t472 = t473 then (payrolllaw35_BookReverses.l2 k x y (4 - ((j + 1 : Nat) : Int)) 0) else (none))))) (fun k => ?_) ?_
    · simp only [payrolllaw35_BookReverses.l1]
      rw [if_pos (by omega)]
    · refine Ev.bind (net_ev y _) (Ev.bind (net_ev x _) ?_)
      rw [hn]
      refine Ev.congr (fun k => if_pos rfl) ?_
      have h3 := rev_l2 x y hx hy (4 - ((j + 1 : Nat) : Int)) (h _) true (by rw [wrap_id (by omega) (by omega), show 4 - ((j + 1 : Nat) : Int) + 1 = 4 - (j : Int) by omega]; exact h2) 3 (by omega)
      simpa using h3
theorem rev_l0 (b : List Ps) (run a : Int) (hb : DBook b run) (hl : b.length ≤ 20) (hr : run ≤ 10) (ha : ∃ p ∈ b, p.f0 = a) : ∀ (suf pre acc : List Ps), b = pre ++ suf → acc = pre.filter (fun p => !(p.f0 == a)) → Ev (fun k => payrolllaw35_BookReverses.l0 k b a acc (pre.length : Int)) true := by
  intro suf
  induction suf with
  | nil =>
    intro pre acc h hacc
    rw [List.append_nil] at h
    subst h
    have hS : SBook b := ⟨hb.each, hb.up, by omega⟩
    have hU : undoSpec b a 100 = (undoL a 100 b, 0) := by
      obtain ⟨p, hp, he⟩ := ha
      have h1 : (undoL a 100 b).length ≠ 0 := by
        have : negP 100 p ∈ undoL a 100 b := by rw [undoL_eq]; exact List.mem_map_of_mem (List.mem_filter.2 ⟨hp, by simp [he]⟩)
        have := List.length_pos_of_mem this
        omega
      have h2 : 0 < b.length := List.length_pos_of_mem hp
      have h3 := hb.le _ (rdP_mem b ((b.length : Int) - 1) (by omega) (by omega))
      unfold undoSpec undoEnd
      rw [hS.book, if_pos rfl, if_pos (by omega), if_neg h1, if_neg (by omega)]
    have hS2 := hS.undo a (by omega)
    have hA : addSpec b (undoL a 100 b) = (b ++ undoL a 100 b, 0) := by
      have hu := undo_len a 100 b
      unfold addSpec
      rw [hS.book, if_pos rfl, if_pos (List.all_eq_true.2 fun p hp => (undo_each hb.each p hp).1.1), if_neg (by omega), if_pos hS2.up]
    refine Ev.step (f := fun k => ((book_Undo.f k b a 100).bind fun bt464 => ((book_Add.f k b bt464.1).bind fun bt468 => (if bt464.2 = 0 then (if bt468.2 = 0 then (payrolllaw35_BookReverses.l1 k acc bt468.1 1) else (none)) else (none))))) (fun k => ?_) ?_
    · simp only [payrolllaw35_BookReverses.l0]
      rw [if_neg (by omega)]
    · refine Ev.bind (undo_ev b a 100) ?_
      rw [hU]
      refine Ev.bind (add_ev b (undoL a 100 b) (by have := undo_len a 100 b; omega)) ?_
      rw [hA]
      refine Ev.congr (fun k => (if_pos rfl).trans (if_pos rfl)) ?_
      have h3 := rev_l1 acc (b ++ undoL a 100 b) (by rw [hacc]; exact (hS.filter _).len) hS2.len (fun e => by rw [net_small hS2, hacc, net_small (hS.filter _)]; exact net_undo e a b hb.each) (fun e q => by rw [hacc]; exact result_undo hS (by omega) a e q) 3 (by omega)
      simpa using h3
  | cons x suf ih =>
    intro pre acc h hacc
    have hln : b.length = pre.length + suf.length + 1 := by rw [h]; simp; omega
    have hrd : rd_T27 b (pre.length : Int) = x := by rw [h]; exact rdP_mid pre x suf
    have hal : acc.length ≤ pre.length := by rw [hacc]; exact List.length_filter_le _ _
    by_cases c : x.f0 = a
    · have h2 := ih (pre ++ [x]) acc (by rw [h]; simp) (by rw [List.filter_append, hacc]; simp [c])
      refine Ev.step (fun k => ?_) h2
      simp only [payrolllaw35_BookReverses.l0]
      rw [if_pos (by omega), if_pos (by omega), hrd, if_pos c, wrap_id (x := (pre.length : Int) + 1) (by omega) (by omega), lenP]
    · have h2 := ih (pre ++ [x]) (acc ++ [x]) (by rw [h]; simp) (by rw [List.filter_append, hacc]; simp [c])
      refine Ev.step (fun k => ?_) h2
      simp only [payrolllaw35_BookReverses.l0]
      rw [if_pos (by omega), if_pos (by omega), hrd, if_neg c, if_pos (by omega), wrap_id (x := (pre.length : Int) + 1) (by omega) (by omega), lenP]
theorem BookReverses : payrolllaw35_BookReverses.Pure := by
  intro l a1 _ _ _ _
  refine Ev.rounds (g := fun k => payrolllaw35_BookReverses.f k l a1) ?_
  unfold payrolllaw35_BookReverses.f paygen_New.f
  simp only [Option.bind_some]
  obtain ⟨b, run, t, hc, hb, hr, hn, t0, t1⟩ := book_ok l 5 (by omega) 0 (by omega) (by omega)
  refine Ev.bind hc ?_
  by_cases h0 : (b.length : Int) = 0
  · exact Ev.congr (fun k => if_pos h0) (Ev.bind awake_ev (Ev.now _))
  · refine Ev.congr (fun k => if_neg h0) ?_
    unfold paygen_Mod.f
    obtain ⟨r, hr', h1, h2⟩ := mod_ok a1 (b.length : Int) (by omega) (by omega)
    rw [hr']
    simp only [Option.bind_some]
    refine Ev.congr (fun k => (if_pos h1).trans (if_pos h2)) ?_
    exact rev_l0 b run _ hb (by omega) (by omega) ⟨_, rdP_mem b r h1 h2, rfl⟩ b [] [] rfl rfl
end Go.Proofs.Ytelmnkmpkljboaa.Pure
