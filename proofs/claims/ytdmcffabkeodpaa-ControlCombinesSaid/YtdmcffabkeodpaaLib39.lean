/- What the functions of package control answer: plain Lean over the printed functions. -/
import Derived.Test.YtdmcffabkeodpaaDeckLib
import Derived.Test.YtdmcffabkeodpaaQx3
import Derived.Test.YtdmcffabkeodpaaQx4
namespace Go.Proofs.Ytdmcffabkeodpaa.Lib39
open Go.RowKit Go.Proofs.Ytdmcffabkeodpaa.Q Go.Proofs.YtdmcffabkeodpaaW.PrintWords Go.Proofs.YtdmcffabkeodpaaW.PrintLast Go.Proofs.Ytdmcffabkeodpaa.DeckLib Go.Proofs.Ytdmcffabkeodpaa.ListKit Go.Proofs.Ytdmcffabkeodpaa.MapKit
abbrev Pay := S29
theorem rd_mid (pre : List Pay) (x : Pay) (suf : List Pay) : rd_T29 (pre ++ x :: suf) (pre.length : Int) = x := by
  simp [rd_T29, List.getD_eq_getElem?_getD]
theorem len_mid (pre : List Pay) (x : Pay) (suf : List Pay) : ((pre ++ [x]).length : Int) = (pre.length : Int) + 1 := by simp
def payB (p : Pay) : Bool := decide (1 ≤ p.f0 ∧ p.f0 ≤ 2147483647 ∧ 1 ≤ p.f1 ∧ p.f1 ≤ 1000000000000)
def sumA (l : List Pay) : Int := (l.map (·.f1)).sum
def sumE (l : List Pay) : Int := (l.map (·.f0)).sum
def ofSpec (l : List Pay) : Int × Int × Int × Int := if l.length > 4096 then (0, 0, 0, 3) else if l.all payB = true then ((l.length : Int), sumA l, sumE l, 0) else (0, 0, 0, 2)
theorem of_loop : ∀ (suf pre : List Pay) (k : Nat) (a b c : Int), pre.length + suf.length ≤ 4096 → suf.length < k → 0 ≤ a → a ≤ pre.length → 0 ≤ b → b ≤ pre.length * 1000000000000 → 0 ≤ c → c ≤ pre.length * 2147483647 →
    control_Of.l0 k (pre ++ suf) ((pre ++ suf).length : Int) (pre.length : Int) a b c = if suf.all payB = true then some (a + suf.length, b + sumA suf, c + sumE suf, 0) else some (0, 0, 0, 2) := by
  intro suf
  induction suf with
  | nil =>
    intro pre k a b c _ hk _ _ _ _ _ _
    obtain ⟨k, rfl⟩ : ∃ m, k = m + 1 := ⟨k - 1, by simp at hk; omega⟩
    simp only [control_Of.l0]
    rw [if_neg (by simp)]
    simp [sumA, sumE]
  | cons x suf ih =>
    intro pre k a b c hl hk ha1 ha2 hb1 hb2 hc1 hc2
    obtain ⟨k, rfl⟩ : ∃ m, k = m + 1 := ⟨k - 1, by simp at hk; omega⟩
    have hlt : (pre.length : Int) < ((pre ++ x :: suf).length : Int) := by simp; omega
    simp only [List.length_cons] at hl hk
    simp only [control_Of.l0]
    rw [if_pos hlt, if_pos (Int.natCast_nonneg _), if_pos hlt, rd_mid]
    by_cases h1 : x.f0 < 1
    · rw [if_pos h1, if_neg (by simp [payB]; intro h; omega)]
    rw [if_neg h1]
    by_cases h2 : x.f0 > 2147483647
    · rw [if_pos h2, if_neg (by simp [payB]; intro _ h; omega)]
    rw [if_neg h2]
    by_cases h3 : x.f1 < 1
    · rw [if_pos h3, if_neg (by simp [payB]; intro _ _ h; omega)]
    rw [if_neg h3]
    by_cases h4 : x.f1 > 1000000000000
    · rw [if_pos h4, if_neg (by simp [payB]; intro _ _ _ h; omega)]
    rw [if_neg h4]
    have hx : payB x = true := by simp [payB]; omega
    rw [wrap_id (by omega) (by omega), wrap_id (x := a + 1) (by omega) (by omega), wrap_id (x := b + x.f1) (by omega) (by omega), wrap_id (x := c + x.f0) (by omega) (by omega)]
    have := ih (pre ++ [x]) k (a + 1) (b + x.f1) (c + x.f0) (by simp; omega) (by omega) (by omega) (by simp; omega) (by omega) (by simp; omega) (by omega) (by simp; omega)
    rw [List.append_assoc, List.singleton_append, len_mid pre x suf] at this
    rw [this, List.all_cons, hx, Bool.true_and]
    by_cases hs : suf.all payB = true
    · rw [if_pos hs, if_pos hs]
      simp [sumA, sumE]
      omega
    · rw [if_neg hs, if_neg hs]
theorem of_eq (l : List Pay) (k : Nat) (hk : 4096 < k) : control_Of.f k l = some (ofSpec l) := by
  unfold control_Of.f ofSpec
  by_cases h : l.length > 4096
  · rw [if_pos (by omega), if_pos h]
  · rw [if_neg (by omega), if_neg h]
    have := of_loop l [] k 0 0 0 (by simp; omega) (by omega) (by omega) (by simp) (by omega) (by simp) (by omega) (by simp)
    simp only [List.nil_append, List.length_nil] at this
    rw [show ((0 : Nat) : Int) = 0 from rfl] at this
    rw [this]
    by_cases hs : l.all payB = true
    · rw [if_pos hs, if_pos hs]; simp
    · rw [if_neg hs, if_neg hs]
def combSpec (l : List Pay) : List Pay × Int := if (ofSpec l).2.2.2 = 0 then (if (paySums l).any (fun p => decide (p.2 > 1000000000000)) = true then ([], 4) else ((paySums l).map fun p => ⟨p.1, p.2⟩, 0)) else ([], (ofSpec l).2.2.2)
theorem comb_eq (l : List Pay) (k : Nat) (hk : 4096 < k) : control_Combine.f k l = some (combSpec l) := by
  unfold control_Combine.f combSpec
  rw [of_eq l k hk, Option.bind_some]
  by_cases h : (ofSpec l).2.2.2 = 0
  · rw [if_pos h, if_pos h]
    by_cases h2 : (paySums l).any (fun p => decide (p.2 > 1000000000000)) = true
    · rw [if_pos h2, if_pos h2]
    · rw [if_neg h2, if_neg h2]
  · rw [if_neg h, if_neg h]
theorem same_loop : ∀ (suf pre : List Pay) (k : Nat), pre.length + suf.length ≤ 1000000 → suf.length < k → payrollref39_Same.l0 k (pre ++ suf) (pre ++ suf) (pre.length : Int) = some true := by
  intro suf
  induction suf with
  | nil =>
    intro pre k _ hk
    obtain ⟨k, rfl⟩ : ∃ m, k = m + 1 := ⟨k - 1, by simp at hk; omega⟩
    simp only [payrollref39_Same.l0]
    rw [if_neg (by simp)]
  | cons x suf ih =>
    intro pre k hl hk
    obtain ⟨k, rfl⟩ : ∃ m, k = m + 1 := ⟨k - 1, by simp at hk; omega⟩
    have hlt : (pre.length : Int) < ((pre ++ x :: suf).length : Int) := by simp; omega
    simp only [List.length_cons] at hl hk
    simp only [payrollref39_Same.l0]
    rw [if_pos hlt, if_pos (Int.natCast_nonneg _), if_pos hlt, rd_mid, if_neg (by simp), wrap_id (by omega) (by omega)]
    have := ih (pre ++ [x]) k (by simp; omega) (by omega)
    rwa [List.append_assoc, List.singleton_append, len_mid pre x suf] at this
theorem same_self (l : List Pay) (k : Nat) (hl : l.length ≤ 1000000) (hk : l.length < k) : payrollref39_Same.f k l l = some true := by
  unfold payrollref39_Same.f
  rw [if_pos rfl]
  exact same_loop l [] k (by simpa using hl) hk
theorem awake_ok (k : Nat) (hk : 10 ≤ k) : payrolllaw39_awake.f k = some true :=
  at_rounds (g := payrolllaw39_awake.f) payrolllaw39_awake.mono hk (by decide +kernel)
end Go.Proofs.Ytdmcffabkeodpaa.Lib39
