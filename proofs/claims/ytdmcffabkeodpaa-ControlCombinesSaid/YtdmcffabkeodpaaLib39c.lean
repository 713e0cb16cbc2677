/- What control.Split and control.Check answer: plain Lean over the printed functions. -/
import Derived.Test.YtdmcffabkeodpaaLib39b
import Derived.Test.YtdmcffabkeodpaaQx10
import Derived.Test.YtdmcffabkeodpaaQx6
import Derived.Test.YtdmcffabkeodpaaQx14
namespace Go.Proofs.Ytdmcffabkeodpaa.Lib39
open Go.RowKit Go.Proofs.Ytdmcffabkeodpaa.Q Go.Proofs.YtdmcffabkeodpaaW.PrintWords Go.Proofs.YtdmcffabkeodpaaW.PrintLast Go.Proofs.YtdmcffabkeodpaaW.PrintMore Go.Proofs.Ytdmcffabkeodpaa.DeckLib Go.Proofs.Ytdmcffabkeodpaa.ListKit Go.Proofs.Ytdmcffabkeodpaa.MapKit
def chunks : Nat → Nat → List Pay → List (List Pay)
  | 0, _, _ => []
  | f + 1, n, l => if l.length = 0 then [] else l.take n :: chunks f n (l.drop n)
theorem split_loop (n : Int) (hn : 1 ≤ n) (f : Nat) : ∀ (l : List Pay) (out : List (List Pay)) (k : Nat), l.length ≤ f → out.length + l.length ≤ 100000 → l.length ≤ k → control_Split.l0 (k + 1) l n out = some (out ++ chunks f n.toNat l, 0) := by
  induction f with
  | zero =>
    intro l out k h1 _ _
    simp only [control_Split.l0]
    rw [if_neg (by omega)]
    simp [chunks]
  | succ f ih =>
    intro l out k h1 h2 h3
    simp only [control_Split.l0, chunks]
    by_cases c : l.length = 0
    · rw [if_neg (by omega), if_pos c, List.append_nil]
    · have hm : mn n (l.length : Int) = if (l.length : Int) < n then (l.length : Int) else n := rfl
      have hm1 : 0 ≤ mn n (l.length : Int) := by rw [hm]; split <;> omega
      have hm2 : mn n (l.length : Int) ≤ (l.length : Int) := by rw [hm]; split <;> omega
      have ht : l.take (mn n (l.length : Int)).toNat = l.take n.toNat := by
        rw [hm]; split
        · rw [List.take_of_length_le (by omega), List.take_of_length_le (by omega)]
        · rfl
      have hd : l.drop (mn n (l.length : Int)).toNat = l.drop n.toNat := by
        rw [hm]; split
        · rw [List.drop_eq_nil_of_le (by omega), List.drop_eq_nil_of_le (by omega)]
        · rfl
      rw [if_pos (by omega), if_pos hm1, if_pos hm2, ht, hd, if_neg c]
      have hl : (l.take n.toNat).length ≤ 8796093022208 := by rw [List.length_take]; omega
      unfold api_Payment.f
      rw [if_pos hl, Option.bind_some, if_pos (by omega)]
      obtain ⟨k, rfl⟩ : ∃ j, k = j + 1 := ⟨k - 1, by omega⟩
      rw [ih (l.drop n.toNat) _ k (by rw [List.length_drop]; omega) (by rw [List.length_append, List.length_drop, List.length_singleton]; omega) (by rw [List.length_drop]; omega), List.append_assoc, List.singleton_append]
theorem split_eq (l : List Pay) (n : Int) (k : Nat) (hk : 5000 < k) : control_Split.f k l n = some (if (ofSpec l).2.2.2 = 0 then (if n < 1 then ([], 2) else (chunks l.length n.toNat l, 0)) else ([], (ofSpec l).2.2.2)) := by
  unfold control_Split.f
  rw [of_eq l k (by omega), Option.bind_some]
  by_cases h : (ofSpec l).2.2.2 = 0
  · rw [if_pos h, if_pos h]
    by_cases h2 : n < 1
    · rw [if_pos h2, if_pos h2]
    · rw [if_neg h2, if_neg h2]
      have hl : l.length ≤ 4096 := by
        unfold ofSpec at h
        by_cases c : l.length > 4096
        · rw [if_pos c] at h; simp at h
        · omega
      obtain ⟨k, rfl⟩ : ∃ j, k = j + 1 := ⟨k - 1, by omega⟩
      rw [split_loop n (by omega) l.length l [] k (Nat.le_refl _) (by simp; omega) (by omega), List.nil_append]
  · rw [if_neg h, if_neg h]
theorem chunks_ok (n : Nat) (hn : 1 ≤ n) (f : Nat) : ∀ l : List Pay, l.length ≤ f → (chunks f n l).flatten = l ∧ (∀ c ∈ chunks f n l, 0 < c.length ∧ c.length ≤ n) ∧ (chunks f n l).length ≤ l.length := by
  induction f with
  | zero =>
    intro l h
    obtain rfl : l = [] := List.eq_nil_of_length_eq_zero (by omega)
    simp [chunks]
  | succ f ih =>
    intro l h
    simp only [chunks]
    by_cases c : l.length = 0
    · obtain rfl : l = [] := List.eq_nil_of_length_eq_zero c
      simp
    · rw [if_neg c]
      obtain ⟨h1, h2, h3⟩ := ih (l.drop n) (by rw [List.length_drop]; omega)
      rw [List.length_drop] at h3
      refine ⟨by rw [List.flatten_cons, h1, List.take_append_drop], fun x hx => ?_, by rw [List.length_cons]; omega⟩
      rcases List.mem_cons.1 hx with hx | hx
      · subst hx; rw [List.length_take]; omega
      · exact h2 x hx
def checkSpec (l : List Pay) (a b c : Int) : Int := if (ofSpec l).2.2.2 = 0 then (if (ofSpec l).1 = a ∧ (ofSpec l).2.1 = b ∧ (ofSpec l).2.2.1 = c then 0 else 17) else (ofSpec l).2.2.2
theorem check_eq (l : List Pay) (a b c : Int) (k : Nat) (hk : 4096 < k) : control_Check.f k l a b c = some (checkSpec l a b c) := by
  unfold control_Check.f checkSpec
  rw [of_eq l k hk, Option.bind_some]
  by_cases h : (ofSpec l).2.2.2 = 0
  · rw [if_pos h, if_pos h]
    by_cases h2 : (ofSpec l).1 = a ∧ (ofSpec l).2.1 = b ∧ (ofSpec l).2.2.1 = c
    · rw [if_pos h2, if_neg (by obtain ⟨e1, e2, e3⟩ := h2; simp [e1, e2, e3])]
    · rw [if_neg h2, if_pos ?_]
      by_cases e1 : (ofSpec l).1 = a
      · by_cases e2 : (ofSpec l).2.1 = b
        · have e3 : ¬ (ofSpec l).2.2.1 = c := fun e3 => h2 ⟨e1, e2, e3⟩
          simp [e1, e2, e3]
        · simp [e1, e2]
      · simp [e1]
  · rw [if_neg h, if_neg h]
theorem payments_loop (l : List Int) (d : Nat) : ∀ (x : List Pay) (at_ : Int) (k : Nat), x.length + d ≤ 1000 → x.all payB = true → 0 ≤ at_ → at_ + 4 * d ≤ 1000000 → d ≤ k → ∃ y at2, paygen_Deck_Payments.l0 (k + 1) x (d : Int) l at_ = some (y, at2) ∧ y.length ≤ x.length + d ∧ y.all payB = true ∧ 0 ≤ at2 ∧ at2 ≤ at_ + 4 * d := by
  induction d with
  | zero =>
    intro x at_ k h1 h2 h3 h4 h5
    simp only [paygen_Deck_Payments.l0]
    exact ⟨x, at_, by rw [if_neg (by omega)], by omega, h2, h3, by omega⟩
  | succ d ih =>
    intro x at_ k h1 h2 h3 h4 h5
    simp only [paygen_Deck_Payments.l0]
    rw [if_pos (by omega)]
    obtain ⟨r, hr, hm⟩ := pick_ok l at_ [1, 2, 3, 7, 2147483647] h3 (by omega) (by simp) (by simp)
    obtain ⟨q, a2, hq, c, e, rfl⟩ := small_ok l (at_ + 1) (by omega) (by omega)
    rw [hr, Option.bind_some, hq, Option.bind_some]
    simp only []
    rw [wrap_id (x := 1 + q) (by omega) (by omega)]
    obtain ⟨s, hs, hm2⟩ := pick_ok l (at_ + 1 + 2) [1, 100, 1 + q, 1000000000000] (by omega) (by omega) (by simp) (by simp)
    rw [hs, Option.bind_some]
    simp only []
    rw [if_pos (by omega), wrap_id (by omega) (by omega)]
    obtain ⟨k, rfl⟩ : ∃ j, k = j + 1 := ⟨k - 1, by omega⟩
    have hb : payB ⟨r, s⟩ = true := by simp at hm hm2; simp [payB]; omega
    obtain ⟨y, at2, h, p1, p2, p3, p4⟩ := ih (x ++ [⟨r, s⟩]) (at_ + 1 + 2 + 1) k (by simp; omega) (by rw [List.all_append, h2]; simp [hb]) (by omega) (by omega) (by omega)
    refine ⟨y, at2, ?_, by simp at p1; omega, p2, p3, by omega⟩
    rw [← h, show ((d + 1 : Nat) : Int) - 1 = (d : Int) by omega]
theorem payments_ok (l : List Int) (at_ n : Int) (k : Nat) (h0 : 0 ≤ at_) (h1 : at_ ≤ 100000) (hn : 0 ≤ n) (hn2 : n ≤ 900) (hk : 1000 ≤ k) : ∃ y at2, paygen_Deck_Payments.f k l at_ n = some (y, at2) ∧ y.length ≤ n ∧ y.all payB = true ∧ 0 ≤ at2 ∧ at2 ≤ at_ + 1 + 4 * n := by
  unfold paygen_Deck_Payments.f
  rw [wrap_id (by omega) (by omega)]
  obtain ⟨r, hr, a, b⟩ := next_ok l at_ (n + 1) h0 (by omega) (by omega) (by omega)
  rw [hr, Option.bind_some]
  simp only []
  obtain ⟨d, rfl⟩ := Int.eq_ofNat_of_zero_le a
  obtain ⟨k, rfl⟩ : ∃ j, k = j + 1 := ⟨k - 1, by omega⟩
  obtain ⟨y, at2, h, p1, p2, p3, p4⟩ := payments_loop l d [] (at_ + 1) k (by simp; omega) rfl (by omega) (by omega) (by omega)
  exact ⟨y, at2, h, by simp at p1; omega, p2, p3, by omega⟩
def ctlB (a b c : Int) : Bool := decide (0 ≤ a ∧ a ≤ 1048576 ∧ a ≤ b ∧ b ≤ a * 1000000000000 ∧ a ≤ c ∧ c ≤ a * 1000000000000)
theorem valid_eq (a b c : Int) : control_valid.f a b c = some (ctlB a b c) := by
  unfold control_valid.f ctlB
  by_cases h1 : a < 0
  · rw [if_pos h1]; simp; omega
  rw [if_neg h1]
  by_cases h2 : a > 1048576
  · rw [if_pos h2]; simp; omega
  rw [if_neg h2, wrap_id (by omega) (by omega)]
  by_cases h3 : b ≥ a
  · rw [if_pos h3]
    by_cases h4 : b ≤ a * 1000000000000
    · rw [if_pos h4]
      by_cases h5 : c ≥ a
      · rw [if_pos h5]; exact congrArg some (decide_eq_decide.2 (by omega))
      · rw [if_neg h5]; simp; omega
    · rw [if_neg h4]; simp; omega
  · rw [if_neg h3]; simp; omega
def addSpec (a b c d e f : Int) : Int × Int × Int × Int := if ctlB a b c = true ∧ ctlB d e f = true then (if ctlB (a + d) (b + e) (c + f) = true then (a + d, b + e, c + f, 0) else (0, 0, 0, 4)) else (0, 0, 0, 1)
theorem add_eq (a b c d e f : Int) (k : Nat) (hk : 1 ≤ k) : control_Add.f k a b c d e f = some (addSpec a b c d e f) := by
  obtain ⟨k, rfl⟩ : ∃ j, k = j + 1 := ⟨k - 1, by omega⟩
  unfold control_Add.f addSpec
  rw [valid_eq, Option.bind_some]
  by_cases h1 : ctlB a b c = true
  · rw [if_pos h1, valid_eq, Option.bind_some]
    simp only [control_Add.j0]
    by_cases h2 : ctlB d e f = true
    · rw [if_neg (by simp [h2]), if_pos ⟨h1, h2⟩]
      simp only [ctlB, decide_eq_true_eq] at h1 h2
      rw [wrap_id (x := a + d) (by omega) (by omega), wrap_id (x := b + e) (by omega) (by omega), wrap_id (x := c + f) (by omega) (by omega), valid_eq, Option.bind_some]
      by_cases h3 : ctlB (a + d) (b + e) (c + f) = true
      · rw [if_pos h3, if_pos h3]
      · rw [if_neg h3, if_neg h3]
    · rw [if_pos (by simpa using h2), if_neg (fun h => h2 h.2)]
  · rw [if_neg h1]
    simp only [control_Add.j0]
    rw [if_pos trivial, if_neg (fun h => h1 h.1)]
theorem sums_bounds : ∀ x : List Pay, x.all payB = true → (x.length : Int) ≤ sumA x ∧ sumA x ≤ x.length * 1000000000000 ∧ (x.length : Int) ≤ sumE x ∧ sumE x ≤ x.length * 2147483647 := by
  intro x
  induction x with
  | nil => intro _; simp [sumA, sumE]
  | cons p r ih =>
    intro h
    rw [List.all_cons, Bool.and_eq_true] at h
    have h1 := ih h.2
    have h2 := h.1
    simp only [payB, decide_eq_true_eq] at h2
    rw [sumA_cons, sumE_cons, List.length_cons]
    omega
theorem sumA_append (a b : List Pay) : sumA (a ++ b) = sumA a + sumA b := by simp [sumA]
theorem sumE_append (a b : List Pay) : sumE (a ++ b) = sumE a + sumE b := by simp [sumE]
theorem ofSpec_ok (x : List Pay) (h : x.all payB = true) (hl : x.length ≤ 4096) : ofSpec x = ((x.length : Int), sumA x, sumE x, 0) := by unfold ofSpec; rw [if_neg (by omega), if_pos h]
theorem ctl_ok (x : List Pay) (h : x.all payB = true) (hl : x.length ≤ 1048576) : ctlB (x.length : Int) (sumA x) (sumE x) = true := by
  have := sums_bounds x h
  simp only [ctlB, decide_eq_true_eq]
  omega
end Go.Proofs.Ytdmcffabkeodpaa.Lib39
