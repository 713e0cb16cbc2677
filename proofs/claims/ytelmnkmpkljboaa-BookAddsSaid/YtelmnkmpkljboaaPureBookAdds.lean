/- Adding postings to a book: package book and its reference answer the same, for all drawn and for any short lists. -/
import Derived.Test.YtelmnkmpkljboaaLibBook
import Derived.Test.YtelmnkmpkljboaaQx13
namespace Go.Proofs.Ytelmnkmpkljboaa.Pure
open Go.RowKit Go.Proofs.Ytelmnkmpkljboaa.Q Go.Proofs.YtelmnkmpkljboaaW.PrintWords Go.Proofs.YtelmnkmpkljboaaW.PrintLast Go.Proofs.Ytelmnkmpkljboaa.DeckLib Go.Proofs.Ytelmnkmpkljboaa.Lib34 Go.Proofs.Ytelmnkmpkljboaa.Lib35
theorem adds_loop (x1 x2 x8 : List Ps) (h2 : x2.length ≤ 1000000) (x10 : Int) : ∀ (j : Nat) (x9 : List Ps) (x11 : Nat), x11 + j = x9.length → x9.length ≤ 1000000 → Ev (fun k => payrolllaw35_BookAdds.l0 k x1 x2 x8 x9 x10 (x11 : Int)) true := by
  intro j
  induction j with
  | zero =>
    intro x9 x11 h hl
    refine Ev.step (fun k => by simp only [payrolllaw35_BookAdds.l0]; rw [if_neg (by omega)]) (Ev.bind (add_ev x8 x9 hl) (Ev.bind (radd_ev x8 x9 hl) (Ev.bind (add_ev x1 x2 h2) (Ev.bind (radd_ev x1 x2 h2) ?_))))
    refine Ev.congr (fun k => if_pos rfl) (Ev.bind (same35_self _ (by have := addSpec_len x8 x9; omega)) ?_)
    refine Ev.congr (fun k => (if_pos rfl).trans (if_pos rfl)) (Ev.bind (same35_self _ (by have := addSpec_len x1 x2; omega)) ?_)
    exact Ev.congr (fun k => if_pos rfl) (Ev.bind awake_ev (Ev.now _))
  | succ j ih =>
    intro x9 x11 h hl
    refine Ev.step (fun k => ?_) (ih (x9.set x11 (⟨wrap64 (((rd_T27 x9 x11).f0) + x10), (rd_T27 x9 x11).f1, (rd_T27 x9 x11).f2, ⟨(rd_T27 x9 x11).f3.f0, (rd_T27 x9 x11).f3.f1, (rd_T27 x9 x11).f3.f2⟩⟩)) (x11 + 1) (by rw [List.length_set]; omega) (by rw [List.length_set]; exact hl))
    simp only [payrolllaw35_BookAdds.l0]
    rw [if_pos (by omega), if_pos (by omega), wrap_id (x := (x11 : Int) + 1) (by omega) (by omega), Int.toNat_natCast, Int.natCast_add]
    rfl
theorem BookAdds (l : List Int) (x1 x2 : List Ps) : ∃ k, payrolllaw35_BookAdds.f k l x1 x2 = some true := by
  refine Ev.rounds (g := fun k => payrolllaw35_BookAdds.f k l x1 x2) ?_
  unfold payrolllaw35_BookAdds.f
  obtain ⟨b1, h1, _⟩ := short_yes x1
  obtain ⟨b2, h2, hl⟩ := short_yes x2
  refine Ev.bind h1 ?_
  cases b1 with
  | false => exact Ev.congr (fun k => if_neg (by simp)) (Ev.bind awake_ev (Ev.now _))
  | true =>
    refine Ev.congr (fun k => if_pos rfl) (Ev.bind h2 ?_)
    cases b2 with
    | false => exact Ev.congr (fun k => if_neg (by simp)) (Ev.bind awake_ev (Ev.now _))
    | true =>
      have hx2 := hl rfl
      refine Ev.congr (fun k => if_pos rfl) ?_
      unfold paygen_New.f
      simp only [Option.bind_some]
      obtain ⟨c, r, t, hc, _, _, hn, t0, t1⟩ := book_ok l 3 (by omega) 0 (by omega) (by omega)
      refine Ev.bind hc ?_
      obtain ⟨d, r2, u, hd, _, _, hm, u0, u1⟩ := book_ok l 3 (by omega) t (by omega) (by omega)
      refine Ev.bind hd ?_
      obtain ⟨s, hs, _, _⟩ := next_ok l u 8 (by omega) (by omega) (by omega) (by omega)
      simp only [hs, Option.bind_some]
      exact adds_loop x1 x2 c (by omega) s d.length d 0 (by omega) (by omega)
end Go.Proofs.Ytelmnkmpkljboaa.Pure
