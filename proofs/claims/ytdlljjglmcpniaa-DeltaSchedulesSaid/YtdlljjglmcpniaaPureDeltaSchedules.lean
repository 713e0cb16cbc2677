/- How a debt is recovered over some periods, or the error, is what the reference states: for all drawn and for any numbers; lists of any content with at most 60 amounts. -/
import Derived.Test.YtdlljjglmcpniaaLib37b
import Derived.Test.YtdlljjglmcpniaaQx21
namespace Go.Proofs.Ytdlljjglmcpniaa.Pure
open Go.RowKit Go.Proofs.Ytdlljjglmcpniaa.Q Go.Proofs.YtdlljjglmcpniaaW.PrintWords Go.Proofs.YtdlljjglmcpniaaW.PrintLast Go.Proofs.Ytdlljjglmcpniaa.DeckLib Go.Proofs.Ytdlljjglmcpniaa.Lib37
theorem schedSpec_len (a0 : Int) (l : List Int) (a2 a3 : Int) : (schedSpec a0 l a2 a3).1.length ≤ 1024 := by
  unfold schedSpec
  split
  · simp
  · split
    · split
      · rw [schedS_len]; omega
      · simp
    · simp
theorem DeltaSchedules : payrolllaw37_DeltaSchedules.Pure := by
  intro l l1 a2 a3 a4 _ _ _ _ _ _ _ _ _
  obtain ⟨K, hK⟩ : ∃ K : Nat, K = 5000 := ⟨_, rfl⟩
  refine ⟨K, ?_⟩
  unfold payrolllaw37_DeltaSchedules.f paygen_New.f
  by_cases c : (l1.length : Int) > 60
  · rw [if_pos c, awake_ok K (by omega)]; rfl
  rw [if_neg c]
  simp only [Option.bind_some]
  obtain ⟨n, hn, n0, n1⟩ := next_ok l 0 6 (by omega) (by omega) (by omega) (by omega)
  rw [hn]; simp only [Option.bind_some]
  obtain ⟨n, rfl⟩ := Int.eq_ofNat_of_zero_le n0
  obtain ⟨x, t, hx, _, _, g1, g2⟩ := bases_ok l n (by omega) (0 + 1) K (by omega) (by omega) (by omega)
  rw [hx]; simp only [Option.bind_some]
  obtain ⟨x1, t1, h1, p1, q1, e1⟩ := amount_ok l t (by omega) (by omega)
  rw [h1]; simp only [Option.bind_some]
  obtain ⟨x2, t2, h2, p2, q2, e2⟩ := small_ok l t1 (by omega) (by omega)
  rw [h2]; simp only [Option.bind_some]
  obtain ⟨x3, t3, h3, p3, q3, e3⟩ := rate_ok l t2 (by omega) (by omega)
  rw [h3]; simp only [Option.bind_some]
  have s1 := schedSpec_len x1 x x2 x3
  have s2 := schedSpec_len a2 l1 a3 a4
  simp only [schedule_eq _ _ _ _ K (by omega), rschedule_eq _ _ _ _ K (by omega), Option.bind_some, if_true]
  rw [ints_self _ K (by omega) (by omega), Option.bind_some, if_pos rfl, ints_self _ K (by omega) (by omega), Option.bind_some, if_pos rfl, awake_ok K (by omega)]
  rfl
end Go.Proofs.Ytdlljjglmcpniaa.Pure
