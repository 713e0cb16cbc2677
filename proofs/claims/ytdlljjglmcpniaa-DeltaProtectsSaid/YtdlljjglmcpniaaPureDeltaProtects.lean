/- What is paid plus what remains is the balance, the protected amount is kept, and never more is withheld than the debt or the permitted part: for all drawn numbers. -/
import Derived.Test.YtdlljjglmcpniaaLib37
import Derived.Test.YtdlljjglmcpniaaQx15
namespace Go.Proofs.Ytdlljjglmcpniaa.Pure
open Go.RowKit Go.Proofs.Ytdlljjglmcpniaa.Q Go.Proofs.YtdlljjglmcpniaaW.PrintWords Go.Proofs.YtdlljjglmcpniaaW.PrintLast Go.Proofs.YtdlljjglmcpniaaW.PrintMore Go.Proofs.Ytdlljjglmcpniaa.DeckLib Go.Proofs.Ytdlljjglmcpniaa.Lib37
theorem DeltaProtects : payrolllaw37_DeltaProtects.Pure := by
  intro l _ _ _
  obtain ⟨K, hK⟩ : ∃ K : Nat, K = 1000 := ⟨_, rfl⟩
  refine ⟨K, ?_⟩
  unfold payrolllaw37_DeltaProtects.f paygen_New.f
  simp only [Option.bind_some]
  obtain ⟨n, t1, h1, p1, q1, e1⟩ := small_ok l 0 (by omega) (by omega)
  rw [h1]; simp only [Option.bind_some]
  obtain ⟨kp, t2, h2, p2, q2, e2⟩ := small_ok l t1 (by omega) (by omega)
  rw [h2]; simp only [Option.bind_some]
  obtain ⟨s, t3, h3, p3, q3, e3⟩ := rate_ok l t2 (by omega) (by omega)
  rw [h3]; simp only [Option.bind_some]
  obtain ⟨x4, t4, h4, p4, q4, e4⟩ := small_ok l t3 (by omega) (by omega)
  rw [h4]; simp only [Option.bind_some]
  obtain ⟨x5, t5, h5, p5, q5, e5⟩ := small_ok l t4 (by omega) (by omega)
  rw [h5]; simp only [Option.bind_some]
  obtain ⟨x6, t6, h6, p6, q6, e6⟩ := small_ok l t5 (by omega) (by omega)
  rw [h6]; simp only [Option.bind_some]
  obtain ⟨r, h7, hm⟩ := pick_ok l t6 [0, 1, x4, wrap64 (10 * x5), wrap64 (-x6)] (by omega) (by omega) (by simp) (by simp)
  rw [h7]; simp only [Option.bind_some]
  rw [wrap_id (x := 10 * x5) (by omega) (by omega), wrap_id (x := -x6) (by omega) (by omega)] at hm
  have hr : -600000 ≤ r ∧ r ≤ 6000000 := by simp at hm; omega
  clear h7 hm
  rw [wrap_id (x := n - r) (by omega) (by omega), recover_eq _ _ _ _ K (by omega), Option.bind_some]
  have hrg : rangeR (n - r) n kp s = true := by simp [rangeR, btw]; omega
  have hpl := prt_le n s (by omega) (by omega) (by omega) (by omega)
  have hsp : prt n s * 1000000 ≤ n * s := by
    unfold prt
    have := (prod_le n s (by omega) (by omega) (by omega) (by omega)).1
    generalize n * s = y at *
    omega
  have hpr := prod_le n s (by omega) (by omega) (by omega) (by omega)
  unfold recSpec
  rw [if_pos hrg]
  by_cases c : n ≤ n - r
  · rw [if_pos c]
    simp only [if_true]
    rw [wrap_id (x := n - r + 0) (by omega) (by omega), if_pos (by omega), if_pos (by omega), awake_ok K (by omega)]
    rfl
  · rw [if_neg c]
    simp only [if_true]
    rw [wrap_id (x := n - (n - r)) (by omega) (by omega)]
    obtain ⟨h, hh⟩ : ∃ h, h = holdS (n - (n - r)) kp s n := ⟨_, rfl⟩
    rw [← hh]
    unfold holdS at hh
    rw [wrap_id (x := n - kp) (by omega) (by omega)] at hh
    have hb : 0 ≤ h ∧ h ≤ r ∧ h ≤ prt n s ∧ (h ≤ n - kp ∨ h ≤ 0) := by
      rw [hh]
      unfold mn mx
      refine ⟨?_, ?_, ?_, ?_⟩ <;> (repeat' split) <;> omega
    clear hh
    have hh2 : h * 1000000 ≤ n * s := by
      have := Int.mul_le_mul_of_nonneg_right hb.2.2.1 (show (0 : Int) ≤ 1000000 by omega)
      omega
    generalize prt n s = pt at *
    rw [wrap_id (x := n - h) (by omega) (by omega), wrap_id (x := n - r - (n - h)) (by omega) (by omega), wrap_id (x := n - h + (n - r - (n - h))) (by omega) (by omega), if_pos (by omega), if_neg (by omega)]
    have hmn : n - h ≥ mn n kp := by unfold mn; split <;> omega
    rw [if_pos hmn, if_pos (by omega), wrap_id (x := n - (n - h)) (by omega) (by omega), if_pos (by omega), wrap_id (x := (n - (n - h)) * 1000000) (by omega) (by omega), wrap_id (x := n * s) (by omega) (by omega), if_pos (by omega), if_pos (by omega), awake_ok K (by omega)]
    rfl
end Go.Proofs.Ytdlljjglmcpniaa.Pure
