/- What package delta and its reference answer on recoveries: plain Lean over the printed functions. -/
import Derived.Test.YtdlljjglmcpniaaDeckLib2
import Derived.Test.YtdlljjglmcpniaaQx6
import Derived.Test.YtdlljjglmcpniaaQx13
namespace Go.Proofs.Ytdlljjglmcpniaa.Lib37
open Go.RowKit Go.Proofs.Ytdlljjglmcpniaa.Q Go.Proofs.YtdlljjglmcpniaaW.PrintWords Go.Proofs.YtdlljjglmcpniaaW.PrintLast Go.Proofs.YtdlljjglmcpniaaW.PrintMore Go.Proofs.Ytdlljjglmcpniaa.DeckLib
def prt (net share : Int) : Int := net * share / 1000000
theorem prod_le (a b : Int) (h0 : 0 ≤ a) (h1 : a ≤ 1000000000) (h2 : 0 ≤ b) (h3 : b ≤ 1000000) : 0 ≤ a * b ∧ a * b ≤ 1000000000000000 := by
  refine ⟨Int.mul_nonneg h0 h2, ?_⟩
  have h5 := Int.mul_le_mul h1 h3 h2 (by omega)
  omega
theorem prt_le (a b : Int) (h0 : 0 ≤ a) (h1 : a ≤ 1000000000) (h2 : 0 ≤ b) (h3 : b ≤ 1000000) : 0 ≤ prt a b ∧ prt a b ≤ a := by
  unfold prt
  have h := Int.mul_le_mul_of_nonneg_left h3 h0
  have hp := (prod_le a b h0 h1 h2 h3).1
  generalize a * b = x at *
  omega
theorem part_eq (net share : Int) (h0 : 0 ≤ net) (h1 : net ≤ 1000000000) (h2 : 0 ≤ share) (h3 : share ≤ 1000000) (k : Nat) (hk : 1 ≤ k) : rounding_Part.f k net share 1000000 1 0 = some (prt net share, 0) := by
  obtain ⟨k, rfl⟩ : ∃ j, k = j + 1 := ⟨k - 1, by omega⟩
  have hp := prod_le net share h0 h1 h2 h3
  unfold rounding_Part.f
  rw [if_neg (by omega), if_neg (by omega), if_neg (by omega), if_neg (by omega), if_neg (by omega), if_neg (by omega), if_neg (by omega), if_neg (by omega), if_neg (by omega)]
  simp only [rounding_Part.j0]
  rw [if_neg (by simp), wrap_id (by omega) (by omega), show wrap64 (1000000 * 1) = 1000000 from wrap_id (by omega) (by omega)]
  unfold prt
  generalize net * share = x at *
  have hm : Int.tmod x 1000000 = x % 1000000 := Int.tmod_eq_emod_of_nonneg hp.1
  have hd : Int.tdiv x 1000000 = x / 1000000 := Int.tdiv_eq_ediv_of_nonneg hp.1
  have hw : rounding_whole.f x 1000000 0 = some (x / 1000000) := by
    unfold rounding_whole.f
    rw [if_neg (by omega), hm, hd, if_neg (by omega), wrap_id (x := x / 1000000) (by omega) (by omega)]
    by_cases c : x % 1000000 > 0
    · rw [if_pos c]
      unfold rounding_up.f
      rw [if_neg (by omega), if_neg (by omega), if_pos rfl, decide_eq_true (show x > 0 by omega)]
      simp
    · rw [if_neg c]
  rw [hw, Option.bind_some]
  rw [Int.mul_one, wrap_id (by omega) (by omega), if_neg (by omega), if_neg (by omega)]
theorem rpart_eq (net share : Int) (h0 : 0 ≤ net) (h1 : net ≤ 1000000000) (h2 : 0 ≤ share) (h3 : share ≤ 1000000) (k : Nat) (hk : 4 ≤ k) : payrollref2_Part.f k net share 1000000 1 0 = some (prt net share, 0) := by
  obtain ⟨k, rfl⟩ : ∃ j, k = j + 4 := ⟨k - 4, by omega⟩
  have hp := prod_le net share h0 h1 h2 h3
  unfold payrollref2_Part.f
  rw [if_neg (by omega), if_neg (by omega), if_neg (by omega), if_neg (by omega), if_neg (by omega), if_neg (by omega), if_neg (by omega), if_neg (by omega)]
  simp only [payrollref2_Mode.f]
  rw [if_pos (by omega), Option.bind_some]
  simp only [payrollref2_Part.j0]
  rw [if_neg (by simp), wrap_id (by omega) (by omega), show wrap64 (1000000 * 1) = 1000000 from wrap_id (by omega) (by omega)]
  unfold prt
  generalize net * share = x at *
  have hd : Int.tdiv x 1000000 = x / 1000000 := Int.tdiv_eq_ediv_of_nonneg hp.1
  have hw : payrollref2_nearest.f (k + 3) x 1000000 0 = some (x / 1000000) := by
    unfold payrollref2_nearest.f
    rw [if_neg (by omega), hd, wrap_id (x := x / 1000000) (by omega) (by omega), wrap_id (by omega) (by omega), if_neg (by omega)]
    simp only [payrollref2_nearest.j0]
    rw [wrap_id (x := x / 1000000 * 1000000) (by omega) (by omega)]
    by_cases c : wrap64 (x - x / 1000000 * 1000000) = 0
    · rw [if_pos c]
    · rw [if_neg c, if_neg (by omega)]
      simp only [payrollref2_nearest.j1, payrollref2_nearest.j2]
      split <;> rfl
  rw [hw, Option.bind_some]
  rw [Int.mul_one, wrap_id (by omega) (by omega), if_neg (by omega), if_neg (by omega)]
def holdS (debt keep share net : Int) : Int := mn (mn debt (prt net share)) (mx (wrap64 (net - keep)) 0)
theorem hold_eq (debt keep share net : Int) (h0 : 0 ≤ net) (h1 : net ≤ 1000000000) (h2 : 0 ≤ share) (h3 : share ≤ 1000000) (k : Nat) (hk : 1 ≤ k) : holdP k debt keep share net = some (holdS debt keep share net) := by
  unfold holdP
  rw [part_eq net share h0 h1 h2 h3 k hk, Option.bind_some, if_pos rfl]; rfl
theorem rhold_eq (debt keep share net : Int) (h0 : 0 ≤ net) (h1 : net ≤ 1000000000) (h2 : 0 ≤ share) (h3 : share ≤ 1000000) (k : Nat) (hk : 4 ≤ k) : payrollref37_hold.f k debt net keep share = some (holdS debt keep share net) := by
  unfold payrollref37_hold.f
  rw [rpart_eq net share h0 h1 h2 h3 k hk, Option.bind_some]; rfl
def recSpec (a0 a1 a2 a3 : Int) : Int × Int × Int :=
  if rangeR a0 a1 a2 a3 = true then (if a1 ≤ a0 then (a0, 0, 0) else (wrap64 (a1 - holdS (wrap64 (a1 - a0)) a2 a3 a1), wrap64 (a0 - wrap64 (a1 - holdS (wrap64 (a1 - a0)) a2 a3 a1)), 0)) else (0, 0, 2)
theorem range_true {a0 a1 a2 a3 : Int} (h : rangeR a0 a1 a2 a3 = true) : -1000000000000 ≤ a0 ∧ a0 ≤ 1000000000000 ∧ 0 ≤ a1 ∧ a1 ≤ 1000000000 ∧ 0 ≤ a2 ∧ a2 ≤ 1000000000 ∧ 0 ≤ a3 ∧ a3 ≤ 1000000 := by
  simp only [rangeR, btw, Bool.and_eq_true, Bool.not_eq_true', decide_eq_false_iff_not, decide_eq_true_eq] at h
  omega
theorem recover_eq (a0 a1 a2 a3 : Int) (k : Nat) (hk : 1 ≤ k) : delta_Recover.f k a0 a1 a2 a3 = some (recSpec a0 a1 a2 a3) := by
  unfold delta_Recover.f recSpec
  by_cases h : rangeR a0 a1 a2 a3 = true
  · rw [if_pos h, if_pos h]
    have := range_true h
    by_cases c : a1 ≤ a0
    · rw [if_pos c, if_pos c]
    · rw [if_neg c, if_neg c, hold_eq _ _ _ _ (by omega) (by omega) (by omega) (by omega) k hk, Option.bind_some]
  · rw [if_neg h, if_neg h]
theorem in_eq (n m : Int) : payrollref37_in.f n m = some (btw n m) := by
  unfold payrollref37_in.f btw
  by_cases h : n ≥ 0
  · rw [if_pos h]; congr 1; by_cases h2 : n ≤ m
    · rw [decide_eq_true h2, decide_eq_true ⟨h, h2⟩]
    · rw [decide_eq_false h2, decide_eq_false (fun c => h2 c.2)]
  · rw [if_neg h]; rw [decide_eq_false (fun c => h c.1)]
theorem rrecover_eq (a0 a1 a2 a3 : Int) (k : Nat) (hk : 5 ≤ k) : payrollref37_Recover.f k a0 a1 a2 a3 = some (recSpec a0 a1 a2 a3) := by
  obtain ⟨k, rfl⟩ : ∃ j, k = j + 1 := ⟨k - 1, by omega⟩
  have hj : payrollref37_Recover.f (k + 1) a0 a1 a2 a3 = payrollref37_Recover.j0 (k + 1) a0 a1 a2 a3 (!rangeR a0 a1 a2 a3) := by
    unfold payrollref37_Recover.f rangeR
    simp only [in_eq, Option.bind_some]
    by_cases c1 : a0 < -1000000000000
    · rw [if_pos c1]; simp [c1]
    rw [if_neg c1]
    by_cases c2 : a0 > 1000000000000
    · rw [if_pos c2]; simp [c2]
    rw [if_neg c2]
    have e1 : decide (a0 < -1000000000000) = false := decide_eq_false c1
    have e2 : decide (1000000000000 < a0) = false := decide_eq_false c2
    rw [e1, e2]
    cases btw a1 1000000000 <;> cases btw a2 1000000000 <;> simp
  rw [hj]
  simp only [payrollref37_Recover.j0]
  unfold recSpec
  by_cases h : rangeR a0 a1 a2 a3 = true
  · have hb := range_true h
    rw [h, if_neg (by simp), if_pos rfl]
    by_cases c : a1 ≤ a0
    · rw [if_neg (by omega), if_pos c]
    · rw [if_pos (by omega), if_neg c, rhold_eq _ _ _ _ (by omega) (by omega) (by omega) (by omega) k (by omega), Option.bind_some]
  · rw [if_neg h, if_pos (by simp [h])]
theorem awake_ok (k : Nat) (hk : 200 ≤ k) : payrolllaw37_awake.f k = some true :=
  at_rounds (g := payrolllaw37_awake.f) payrolllaw37_awake.mono hk (by decide +kernel)
end Go.Proofs.Ytdlljjglmcpniaa.Lib37
