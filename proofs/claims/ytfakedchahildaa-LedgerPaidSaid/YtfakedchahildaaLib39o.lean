/- control.Of and its reference; draws of payments (taken out of Lib39, Lib39b, Lib39c, Lib39d, for other chapters). Plain Lean. -/
import Derived.Test.YtfakedchahildaaDeckLib
import Derived.Test.YtfakedchahildaaQx18
import Derived.Test.YtfakedchahildaaQx19
namespace Go.Proofs.Ytfakedchahildaa.Lib39
open Go.RowKit Go.Proofs.Ytfakedchahildaa.Q Go.Proofs.YtfakedchahildaaW.PrintWords Go.Proofs.YtfakedchahildaaW.PrintLast Go.Proofs.YtfakedchahildaaW.PrintMore Go.Proofs.Ytfakedchahildaa.DeckLib
abbrev Pay := S81
theorem rd_mid (pre : List Pay) (x : Pay) (suf : List Pay) : rd_T81 (pre ++ x :: suf) (pre.length : Int) = x := by
  simp [rd_T81, List.getD_eq_getElem?_getD]
theorem len_mid (pre : List Pay) (x : Pay) (suf : List Pay) : ((pre ++ [x]).length : Int) = (pre.length : Int) + 1 := by simp
def payB (p : Pay) : Bool := decide (1 ≤ p.f0 ∧ p.f0 ≤ 2147483647 ∧ 1 ≤ p.f1 ∧ p.f1 ≤ 1000000000000)
def sumA (l : List Pay) : Int := (l.map (·.f1)).sum
def sumE (l : List Pay) : Int := (l.map (·.f0)).sum
def ofSpec (l : List Pay) : Int × Int × Int × Int := if l.length > 4096 then (0, 0, 0, 3) else if l.all payB = true then ((l.length : Int), sumA l, sumE l, 0) else (0, 0, 0, 2)
theorem of_loop : ∀ (suf pre : List Pay) (k : Nat) (a b c : Int), pre.length + suf.length ≤ 4096 → suf.length < k → 0 ≤ a → a ≤ pre.length → 0 ≤ b → b ≤ pre.length * 1000000000000 → 0 ≤ c → c ≤ pre.length * 2147483647 →
    control_Of.l0 k (pre ++ suf) ((pre ++ suf).length : Int) (pre.length : Int) a b c = if suf.all payB = true then some (a + suf.length, b + sumA suf, c + sumE suf, 0) else some (0, 0, 0, 2) := by
  intro suf
  induction suf with
  | nil =>
    intro pre k a b c _ hk _ _ _ _ _ _
    obtain ⟨k, rfl⟩ : ∃ m, k = m + 1 := ⟨k - 1, by simp at hk; omega⟩
    simp only [control_Of.l0]
    rw [if_neg (by simp)]
    simp [sumA, sumE]
  | cons x suf ih =>
    intro pre k a b c hl hk ha1 ha2 hb1 hb2 hc1 hc2
    obtain ⟨k, rfl⟩ : ∃ m, k = m + 1 := ⟨k - 1, by simp at hk; omega⟩
    have hlt : (pre.length : Int) < ((pre ++ x :: suf).length : Int) := by simp; omega
    simp only [List.length_cons] at hl hk
    simp only [control_Of.l0]
    rw [if_pos hlt, if_pos (Int.natCast_nonneg _), if_pos hlt, rd_mid]
    by_cases h1 : x.f0 < 1
    · rw [if_pos h1, if_neg (by simp [payB]; intro h; omega)]
    rw [if_neg h1]
    by_cases h2 : x.f0 > 2147483647
    · rw [if_pos h2, if_neg (by simp [payB]; intro _ h; omega)]
    rw [if_neg h2]
    by_cases h3 : x.f1 < 1
    · rw [if_pos h3, if_neg (by simp [payB]; intro _ _ h; omega)]
    rw [if_neg h3]
    by_cases h4 : x.f1 > 1000000000000
    · rw [if_pos h4, if_neg (by simp [payB]; intro _ _ _ h; omega)]
    rw [if_neg h4]
    have hx : payB x = true := by simp [payB]; omega
    rw [wrap_id (by omega) (by omega), wrap_id (x := a + 1) (by omega) (by omega), wrap_id (x := b + x.f1) (by omega) (by omega), wrap_id (x := c + x.f0) (by omega) (by omega)]
    have := ih (pre ++ [x]) k (a + 1) (b + x.f1) (c + x.f0) (by simp; omega) (by omega) (by omega) (by simp; omega) (by omega) (by simp; omega) (by omega) (by simp; omega)
    rw [List.append_assoc, List.singleton_append, len_mid pre x suf] at this
    rw [this, List.all_cons, hx, Bool.true_and]
    by_cases hs : suf.all payB = true
    · rw [if_pos hs, if_pos hs]
      simp [sumA, sumE]
      omega
    · rw [if_neg hs, if_neg hs]
theorem of_eq (l : List Pay) (k : Nat) (hk : 4096 < k) : control_Of.f k l = some (ofSpec l) := by
  unfold control_Of.f ofSpec
  by_cases h : l.length > 4096
  · rw [if_pos (by omega), if_pos h]
  · rw [if_neg (by omega), if_neg h]
    have := of_loop l [] k 0 0 0 (by simp; omega) (by omega) (by omega) (by simp) (by omega) (by simp) (by omega) (by simp)
    simp only [List.nil_append, List.length_nil] at this
    rw [show ((0 : Nat) : Int) = 0 from rfl] at this
    rw [this]
    by_cases hs : l.all payB = true
    · rw [if_pos hs, if_pos hs]; simp
    · rw [if_neg hs, if_neg hs]
theorem sumA_cons (p : Pay) (r : List Pay) : sumA (p :: r) = p.f1 + sumA r := by simp [sumA]
theorem sumE_cons (p : Pay) (r : List Pay) : sumE (p :: r) = p.f0 + sumE r := by simp [sumE]
theorem rvalid_eq (a b : Int) : payrollref39_Valid.f a b = some (payB ⟨a, b⟩) := by
  unfold payrollref39_Valid.f payB
  by_cases h1 : a ≥ 1
  · rw [if_pos h1]
    by_cases h2 : a ≤ 2147483647
    · rw [if_pos h2]
      by_cases h3 : b ≥ 1
      · rw [if_pos h3]; exact congrArg some (decide_eq_decide.2 ⟨fun h => ⟨h1, h2, h3, h⟩, fun h => h.2.2.2⟩)
      · rw [if_neg h3]; simp; omega
    · rw [if_neg h2]; simp; omega
  · rw [if_neg h1]; simp; omega
theorem rof_loop : ∀ (suf pre : List Pay) (k : Nat) (a b c : Int), pre.length + suf.length ≤ 4096 → suf.length < k → 0 ≤ b → b ≤ pre.length * 1000000000000 → 0 ≤ c → c ≤ pre.length * 2147483647 →
    payrollref39_Of.l0 k (pre ++ suf) (pre.length : Int) a b c = if suf.all payB = true then some (a, b + sumA suf, c + sumE suf, 0) else some (0, 0, 0, 2) := by
  intro suf
  induction suf with
  | nil =>
    intro pre k a b c _ hk _ _ _ _
    obtain ⟨k, rfl⟩ : ∃ m, k = m + 1 := ⟨k - 1, by simp at hk; omega⟩
    simp only [payrollref39_Of.l0]
    rw [if_neg (by simp)]
    simp [sumA, sumE]
  | cons x suf ih =>
    intro pre k a b c hl hk hb1 hb2 hc1 hc2
    obtain ⟨k, rfl⟩ : ∃ m, k = m + 1 := ⟨k - 1, by simp at hk; omega⟩
    have hlt : (pre.length : Int) < ((pre ++ x :: suf).length : Int) := by simp; omega
    simp only [List.length_cons] at hl hk
    simp only [payrollref39_Of.l0]
    rw [if_pos hlt, if_pos (Int.natCast_nonneg _), rd_mid, rvalid_eq, Option.bind_some]
    by_cases h1 : payB ⟨x.f0, x.f1⟩ = true
    · have hx : payB x = true := h1
      have h2 := hx
      simp only [payB, decide_eq_true_eq] at h2
      rw [if_pos h1, wrap_id (x := (pre.length : Int) + 1) (by omega) (by omega), wrap_id (x := b + x.f1) (by omega) (by omega), wrap_id (x := c + x.f0) (by omega) (by omega)]
      have := ih (pre ++ [x]) k a (b + x.f1) (c + x.f0) (by simp; omega) (by omega) (by omega) (by simp; omega) (by omega) (by simp; omega)
      rw [List.append_assoc, List.singleton_append, len_mid pre x suf] at this
      rw [this, List.all_cons, hx, Bool.true_and, sumA_cons, sumE_cons]
      by_cases hs : suf.all payB = true
      · rw [if_pos hs, if_pos hs]
        rw [Int.add_assoc, Int.add_assoc]
      · rw [if_neg hs, if_neg hs]
    · have hx : ¬ payB x = true := h1
      rw [if_neg h1, List.all_cons, if_neg (by simp [hx])]
theorem rof_eq (l : List Pay) (k : Nat) (hk : 4096 < k) : payrollref39_Of.f k l = some (ofSpec l) := by
  unfold payrollref39_Of.f ofSpec
  by_cases h : l.length > 4096
  · rw [if_pos (by omega), if_pos h]
  · rw [if_neg (by omega), if_neg h]
    have := rof_loop l [] k (l.length : Int) 0 0 (by simp; omega) (by omega) (by omega) (by simp) (by omega) (by simp)
    simp only [List.nil_append, List.length_nil] at this
    rw [show ((0 : Nat) : Int) = 0 from rfl] at this
    rw [this]
    by_cases hs : l.all payB = true
    · rw [if_pos hs, if_pos hs]; simp
    · rw [if_neg hs, if_neg hs]
theorem payments_loop (l : List Int) (d : Nat) : ∀ (x : List Pay) (at_ : Int) (k : Nat), x.length + d ≤ 1000 → x.all payB = true → 0 ≤ at_ → at_ + 4 * d ≤ 1000000 → d ≤ k → ∃ y at2, paygen_Deck_Payments.l0 (k + 1) x (d : Int) l at_ = some (y, at2) ∧ y.length ≤ x.length + d ∧ y.all payB = true ∧ 0 ≤ at2 ∧ at2 ≤ at_ + 4 * d := by
  induction d with
  | zero =>
    intro x at_ k h1 h2 h3 h4 h5
    simp only [paygen_Deck_Payments.l0]
    exact ⟨x, at_, by rw [if_neg (by omega)], by omega, h2, h3, by omega⟩
  | succ d ih =>
    intro x at_ k h1 h2 h3 h4 h5
    simp only [paygen_Deck_Payments.l0]
    rw [if_pos (by omega)]
    obtain ⟨r, hr, hm⟩ := pick_ok l at_ [1, 2, 3, 7, 2147483647] h3 (by omega) (by simp) (by simp)
    obtain ⟨q, a2, hq, c, e, rfl⟩ := small_ok l (at_ + 1) (by omega) (by omega)
    rw [hr, Option.bind_some, hq, Option.bind_some]
    simp only []
    rw [wrap_id (x := 1 + q) (by omega) (by omega)]
    obtain ⟨s, hs, hm2⟩ := pick_ok l (at_ + 1 + 2) [1, 100, 1 + q, 1000000000000] (by omega) (by omega) (by simp) (by simp)
    rw [hs, Option.bind_some]
    simp only []
    rw [if_pos (by omega), wrap_id (by omega) (by omega)]
    obtain ⟨k, rfl⟩ : ∃ j, k = j + 1 := ⟨k - 1, by omega⟩
    have hb : payB ⟨r, s⟩ = true := by simp at hm hm2; simp [payB]; omega
    obtain ⟨y, at2, h, p1, p2, p3, p4⟩ := ih (x ++ [⟨r, s⟩]) (at_ + 1 + 2 + 1) k (by simp; omega) (by rw [List.all_append, h2]; simp [hb]) (by omega) (by omega) (by omega)
    refine ⟨y, at2, ?_, by simp at p1; omega, p2, p3, by omega⟩
    rw [← h, show ((d + 1 : Nat) : Int) - 1 = (d : Int) by omega]
theorem payments_ok (l : List Int) (at_ n : Int) (k : Nat) (h0 : 0 ≤ at_) (h1 : at_ ≤ 100000) (hn : 0 ≤ n) (hn2 : n ≤ 900) (hk : 1000 ≤ k) : ∃ y at2, paygen_Deck_Payments.f k l at_ n = some (y, at2) ∧ y.length ≤ n ∧ y.all payB = true ∧ 0 ≤ at2 ∧ at2 ≤ at_ + 1 + 4 * n := by
  unfold paygen_Deck_Payments.f
  rw [wrap_id (by omega) (by omega)]
  obtain ⟨r, hr, a, b⟩ := next_ok l at_ (n + 1) h0 (by omega) (by omega) (by omega)
  rw [hr, Option.bind_some]
  simp only []
  obtain ⟨d, rfl⟩ := Int.eq_ofNat_of_zero_le a
  obtain ⟨k, rfl⟩ : ∃ j, k = j + 1 := ⟨k - 1, by omega⟩
  obtain ⟨y, at2, h, p1, p2, p3, p4⟩ := payments_loop l d [] (at_ + 1) k (by simp; omega) rfl (by omega) (by omega) (by omega)
  exact ⟨y, at2, h, by simp at p1; omega, p2, p3, by omega⟩
theorem sums_bounds : ∀ x : List Pay, x.all payB = true → (x.length : Int) ≤ sumA x ∧ sumA x ≤ x.length * 1000000000000 ∧ (x.length : Int) ≤ sumE x ∧ sumE x ≤ x.length * 2147483647 := by
  intro x
  induction x with
  | nil => intro _; simp [sumA, sumE]
  | cons p r ih =>
    intro h
    rw [List.all_cons, Bool.and_eq_true] at h
    have h1 := ih h.2
    have h2 := h.1
    simp only [payB, decide_eq_true_eq] at h2
    rw [sumA_cons, sumE_cons, List.length_cons]
    omega
end Go.Proofs.Ytfakedchahildaa.Lib39
