/- A schedule can be made for at most MaxList net amounts; with 100 each and a tenth permitted, each is reduced by 10. -/
import Derived.Test.YtdlljjglmcpniaaLib37b
import Derived.Test.YtdlljjglmcpniaaQx19
import Derived.Test.YtdlljjglmcpniaaQx16
namespace Go.Proofs.Ytdlljjglmcpniaa.Pure
open Go.RowKit Go.Proofs.Ytdlljjglmcpniaa.Q Go.Proofs.YtdlljjglmcpniaaW.PrintWords Go.Proofs.YtdlljjglmcpniaaW.PrintLast Go.Proofs.YtdlljjglmcpniaaW.PrintMore Go.Proofs.Ytdlljjglmcpniaa.DeckLib Go.Proofs.Ytdlljjglmcpniaa.Lib37
theorem hold10 (d : Int) (h : 10 ≤ d) : holdS d 0 100000 100 = 10 := by
  unfold holdS prt
  rw [wrap_id (by omega) (by omega)]
  unfold mn mx
  repeat' split
  all_goals omega
theorem sched10 : ∀ (n : Nat) (d : Int), 10 * (n : Int) ≤ d → d ≤ 1000000 → schedS 0 100000 d (List.replicate n 100) = List.replicate n 10
  | 0, _, _, _ => rfl
  | n + 1, d, h, h2 => by
    rw [List.replicate_succ, List.replicate_succ, schedS, hold10 d (by omega), wrap_id (by omega) (by omega), sched10 n (d - 10) (by omega) (by omega)]
theorem limits_loop (n : Nat) (hn : n ≤ 2000) : ∀ (j i m : Nat), i + j = n → payrolllaw37_DeltaLimits.l0 (j + 1 + m) (n : Int) (List.replicate i 100 ++ List.replicate j 0) (i : Int) = payrolllaw37_DeltaLimits.l0 (1 + m) (n : Int) (List.replicate n 100) (n : Int) := by
  intro j
  induction j with
  | zero =>
    intro i m h
    obtain rfl : i = n := by omega
    simp
  | succ j ih =>
    intro i m h
    rw [show j + 1 + 1 + m = (j + 1 + m) + 1 by omega]
    conv => lhs; unfold payrolllaw37_DeltaLimits.l0
    rw [if_pos (by omega), if_pos (by omega), if_pos (by simp; omega), wrap_id (by omega) (by omega)]
    have e : (List.replicate i (100 : Int) ++ List.replicate (j + 1) 0).set ((i : Int)).toNat 100 = List.replicate (i + 1) 100 ++ List.replicate j 0 := by
      rw [Int.toNat_natCast, List.set_append_right _ _ (by simp), List.length_replicate, Nat.sub_self, List.replicate_succ, List.set_cons_zero, List.replicate_succ', List.append_assoc, List.singleton_append]
    rw [e]
    exact ih (i + 1) m (by omega)
theorem DeltaLimits : payrolllaw37_DeltaLimits.Pure := by
  intro a _
  obtain ⟨K, hK⟩ : ∃ K : Nat, K = 5000 := ⟨_, rfl⟩
  refine ⟨K, ?_⟩
  unfold payrolllaw37_DeltaLimits.f paygen_Mod.f
  obtain ⟨r, hr, h1, h2⟩ := mod_ok a 3 (by omega) (by omega)
  rw [hr]; simp only [Option.bind_some]
  rw [wrap_id (by omega) (by omega), if_pos (by omega), if_pos (by omega)]
  obtain ⟨n, hn⟩ : ∃ n : Nat, (1023 + r) = (n : Int) := ⟨(1023 + r).toNat, by omega⟩
  rw [hn, Int.toNat_natCast]
  obtain ⟨m, hm, hm2⟩ : ∃ m, K = n + 1 + m ∧ 300 ≤ m := ⟨K - n - 1, by omega, by omega⟩
  clear hK
  have := limits_loop n (by omega) n 0 m (by omega)
  simp only [List.replicate_zero, List.nil_append] at this
  rw [show ((0 : Nat) : Int) = 0 from rfl] at this
  rw [hm, this, Nat.add_comm 1 m]
  simp only [payrolllaw37_DeltaLimits.l0]
  rw [if_neg (by omega), schedule_eq _ _ _ _ _ (by omega), Option.bind_some, awake_ok _ (by omega), wrap_id (x := (n : Int) * 10) (by omega) (by omega)]
  by_cases c : n > 1024
  · have hs : schedSpec ((n : Int) * 10) (List.replicate n 100) 0 100000 = ([], 3) := by
      unfold schedSpec
      rw [List.length_replicate, if_pos c]
    rw [hs, if_pos (by omega)]
    simp
  · have hs : schedSpec ((n : Int) * 10) (List.replicate n 100) 0 100000 = (List.replicate n 10, 0) := by
      unfold schedSpec
      have e1 : btw ((n : Int) * 10) 1000000000000 = true := decide_eq_true (by omega)
      have e2 : btw 0 1000000000 = true := decide_eq_true (by omega)
      have e3 : btw 100000 1000000 = true := decide_eq_true (by omega)
      have e4 : (List.replicate n (100 : Int)).all netB = true := by
        rw [List.all_eq_true]
        intro y hy
        rw [(List.mem_replicate.1 hy).2]
        exact (decide_eq_true (show (0 : Int) ≤ 100 ∧ (100 : Int) ≤ 1000000000 by omega) : netB 100 = true)
      rw [List.length_replicate, if_neg c, e1, e2, e3, if_pos (by rfl), if_pos e4, sched10 n _ (by omega) (by omega)]
    rw [hs, if_neg (by omega)]
    simp only [List.length_replicate, if_true]
    rw [if_pos (by omega), wrap_id (x := (n : Int) - 1) (by omega) (by omega)]
    have hrd : ∀ i : Int, 0 ≤ i → i < (n : Int) → rd (List.replicate n (10 : Int)) i = 10 := by
      intro i h0 h1
      have : i.toNat < n := by omega
      simp [rd, List.getD_eq_getElem?_getD, this]
    rw [hrd 0 (by omega) (by omega), hrd _ (by omega) (by omega), if_pos rfl, if_pos (by omega), if_pos (by omega), if_pos rfl]
    rfl
end Go.Proofs.Ytdlljjglmcpniaa.Pure
