/- Undoing a run: package book and its reference answer the same, for all drawn and for any short list. -/
import Derived.Test.YtelmnkmpkljboaaLibBook
import Derived.Test.YtelmnkmpkljboaaQx17
namespace Go.Proofs.Ytelmnkmpkljboaa.Pure
open Go.RowKit Go.Proofs.Ytelmnkmpkljboaa.Q Go.Proofs.YtelmnkmpkljboaaW.PrintWords Go.Proofs.YtelmnkmpkljboaaW.PrintLast Go.Proofs.Ytelmnkmpkljboaa.DeckLib Go.Proofs.Ytelmnkmpkljboaa.Lib34 Go.Proofs.Ytelmnkmpkljboaa.Lib35
theorem BookUndoes (l : List Int) (x1 : List Ps) (a b : Int) : ∃ k, payrolllaw35_BookUndoes.f k l x1 a b = some true := by
  refine Ev.rounds (g := fun k => payrolllaw35_BookUndoes.f k l x1 a b) ?_
  unfold payrolllaw35_BookUndoes.f
  obtain ⟨b1, h1, _⟩ := short_yes x1
  refine Ev.bind h1 ?_
  cases b1 with
  | false => exact Ev.congr (fun k => if_neg (by simp)) (Ev.bind awake_ev (Ev.now _))
  | true =>
    refine Ev.congr (fun k => if_pos rfl) ?_
    unfold paygen_New.f
    simp only [Option.bind_some]
    obtain ⟨c, r, t, hc, _, _, hn, t0, t1⟩ := book_ok l 4 (by omega) 0 (by omega) (by omega)
    refine Ev.bind hc ?_
    obtain ⟨s, hs, _, _⟩ := next_ok l t 9 (by omega) (by omega) (by omega) (by omega)
    simp only [hs, Option.bind_some]
    obtain ⟨q, hq, _⟩ := pick_ok l (t + 1) [9, 12, 3, 0, 256, 257] (by omega) (by omega) (by simp) (by simp)
    simp only [hq, Option.bind_some]
    refine Ev.bind (undo_ev c s q) (Ev.bind (rundo_ev c s q) (Ev.bind (undo_ev x1 a b) (Ev.bind (rundo_ev x1 a b) ?_)))
    refine Ev.congr (fun k => if_pos rfl) (Ev.bind (same35_self _ (by have := undoSpec_len c s q; omega)) ?_)
    refine Ev.congr (fun k => (if_pos rfl).trans (if_pos rfl)) (Ev.bind (same35_self _ (by have := undoSpec_len x1 a b; omega)) ?_)
    exact Ev.congr (fun k => if_pos rfl) (Ev.bind awake_ev (Ev.now _))
end Go.Proofs.Ytelmnkmpkljboaa.Pure
