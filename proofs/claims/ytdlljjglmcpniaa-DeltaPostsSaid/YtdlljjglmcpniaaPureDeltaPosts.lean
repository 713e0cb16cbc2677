/- Postings of differences: package delta and its reference answer the same, for all drawn and for any short lists. -/
import Derived.Test.YtdlljjglmcpniaaLib37p
import Derived.Test.YtdlljjglmcpniaaQx11
namespace Go.Proofs.Ytdlljjglmcpniaa.Pure
open Go.RowKit Go.Proofs.Ytdlljjglmcpniaa.Q Go.Proofs.YtdlljjglmcpniaaW.PrintWords Go.Proofs.YtdlljjglmcpniaaW.PrintLast Go.Proofs.Ytdlljjglmcpniaa.DeckLib Go.Proofs.Ytdlljjglmcpniaa.Lib34 Go.Proofs.Ytdlljjglmcpniaa.Lib37
theorem DeltaPosts (l : List Int) (x1 x2 : List Ln) (a b c : Int) : ∃ k, payrolllaw37_DeltaPosts.f k l x1 x2 a b c = some true := by
  refine Ev.rounds (g := fun k => payrolllaw37_DeltaPosts.f k l x1 x2 a b c) ?_
  unfold payrolllaw37_DeltaPosts.f
  obtain ⟨b1, h1⟩ := shortL_yes x1
  obtain ⟨b2, h2⟩ := shortL_yes x2
  refine Ev.bind h1 ?_
  cases b1 with
  | false => exact Ev.congr (fun k => if_neg (by simp)) (Ev.bind awake_ev (Ev.now _))
  | true =>
    refine Ev.congr (fun k => if_pos rfl) (Ev.bind h2 ?_)
    cases b2 with
    | false => exact Ev.congr (fun k => if_neg (by simp)) (Ev.bind awake_ev (Ev.now _))
    | true =>
      refine Ev.congr (fun k => if_pos rfl) ?_
      unfold paygen_New.f
      simp only [Option.bind_some]
      obtain ⟨r, t, hr, _, _, t0, t1⟩ := lines_ok l 6 (by omega) 0 (by omega) (by omega)
      refine Ev.bind hr ?_
      obtain ⟨s, u, hs, _, _, u0, u1⟩ := lines_ok l 6 (by omega) t (by omega) (by omega)
      refine Ev.bind hs ?_
      obtain ⟨p, hp, _⟩ := pick_ok l u [1, 5, 0, 256, 257] (by omega) (by omega) (by simp) (by simp)
      simp only [hp, Option.bind_some]
      obtain ⟨q, hq, _⟩ := pick_ok l (u + 1) [1, 9, 0] (by omega) (by omega) (by simp) (by simp)
      simp only [hq, Option.bind_some]
      obtain ⟨z, hz, _⟩ := pick_ok l (u + 1 + 1) [0, 3, -1, 84006] (by omega) (by omega) (by simp) (by simp)
      simp only [hz, Option.bind_some]
      refine Ev.bind (post_ev p q z r s) (Ev.bind (rpost_ev p q z r s) (Ev.bind (post_ev a b c x1 x2) (Ev.bind (rpost_ev a b c x1 x2) ?_)))
      refine Ev.congr (fun k => if_pos rfl) (Ev.bind (same35_self _ (by have := postSpec_len p q z r s; omega)) ?_)
      refine Ev.congr (fun k => (if_pos rfl).trans (if_pos rfl)) (Ev.bind (same35_self _ (by have := postSpec_len a b c x1 x2; omega)) ?_)
      exact Ev.congr (fun k => if_pos rfl) (Ev.bind awake_ev (Ev.now _))
end Go.Proofs.Ytdlljjglmcpniaa.Pure
