/- What is paid and what remains when a debt is recovered is what the reference states: for all drawn and for any numbers. -/
import Derived.Test.YtdlljjglmcpniaaLib37
import Derived.Test.YtdlljjglmcpniaaQx14
namespace Go.Proofs.Ytdlljjglmcpniaa.Pure
open Go.RowKit Go.Proofs.Ytdlljjglmcpniaa.Q Go.Proofs.YtdlljjglmcpniaaW.PrintWords Go.Proofs.YtdlljjglmcpniaaW.PrintLast Go.Proofs.Ytdlljjglmcpniaa.DeckLib Go.Proofs.Ytdlljjglmcpniaa.Lib37
theorem DeltaRecovers : payrolllaw37_DeltaRecovers.Pure := by
  intro l a1 a2 a3 a4 _ _ _ _ _ _ _
  obtain ⟨K, hK⟩ : ∃ K : Nat, K = 1000 := ⟨_, rfl⟩
  refine ⟨K, ?_⟩
  unfold payrolllaw37_DeltaRecovers.f paygen_New.f
  simp only [Option.bind_some]
  obtain ⟨x1, t1, h1, p1, q1, e1⟩ := amount_ok l 0 (by omega) (by omega)
  rw [h1]; simp only [Option.bind_some]
  obtain ⟨x2, t2, h2, p2, q2, e2⟩ := small_ok l t1 (by omega) (by omega)
  rw [h2]; simp only [Option.bind_some]
  obtain ⟨x3, t3, h3, p3, q3, e3⟩ := amount_ok l t2 (by omega) (by omega)
  rw [h3]; simp only [Option.bind_some]
  obtain ⟨x4, t4, h4, p4, q4, e4⟩ := amount_ok l t3 (by omega) (by omega)
  rw [h4]; simp only [Option.bind_some]
  obtain ⟨x5, t5, h5, p5, q5, e5⟩ := amount_ok l t4 (by omega) (by omega)
  rw [h5]; simp only [Option.bind_some]
  obtain ⟨x6, h6, _⟩ := pick_ok l t5 [x1, wrap64 (x1 - 1), wrap64 (x1 + 1), 0, (-1), wrap64 (x1 - x2), wrap64 (x1 - x3), wrap64 (x1 + x4), wrap64 (-x5)] (by omega) (by omega) (by simp) (by simp)
  rw [h6]; simp only [Option.bind_some]
  obtain ⟨x7, t7, h7, p7, q7, e7⟩ := small_ok l (t5 + 1) (by omega) (by omega)
  rw [h7]; simp only [Option.bind_some]
  obtain ⟨x8, h8, _⟩ := pick_ok l t7 [0, x1, wrap64 (x1 + 1), mx (wrap64 (x1 - 1)) 0, x7] (by omega) (by omega) (by simp) (by simp)
  rw [h8]; simp only [Option.bind_some]
  obtain ⟨x9, t9, h9, p9, q9, e9⟩ := rate_ok l (t7 + 1) (by omega) (by omega)
  rw [h9]; simp only [Option.bind_some]
  simp only [recover_eq _ _ _ _ K (by omega), rrecover_eq _ _ _ _ K (by omega), Option.bind_some, if_true, awake_ok K (by omega)]
end Go.Proofs.Ytdlljjglmcpniaa.Pure
