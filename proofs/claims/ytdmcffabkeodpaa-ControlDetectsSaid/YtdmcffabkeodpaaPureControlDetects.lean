/- Control totals detect a payment that was left out, changed or given to another employee: for all drawn payments and every choice. -/
import Derived.Test.YtdmcffabkeodpaaLib39c
import Derived.Test.YtdmcffabkeodpaaQx7
import Derived.Test.YtdmcffabkeodpaaQx6
namespace Go.Proofs.Ytdmcffabkeodpaa.Pure
open Go.RowKit Go.Proofs.Ytdmcffabkeodpaa.Q Go.Proofs.YtdmcffabkeodpaaW.PrintWords Go.Proofs.YtdmcffabkeodpaaW.PrintLast Go.Proofs.Ytdmcffabkeodpaa.DeckLib Go.Proofs.Ytdmcffabkeodpaa.Lib39 Go.Proofs.Ytdmcffabkeodpaa.ListKit Go.Proofs.Ytdmcffabkeodpaa.MapKit
theorem differs (x y : List Pay) (hx : x.all payB = true) (hy : y.all payB = true) (lx : x.length ≤ 100) (ly : y.length ≤ 100) (h : x.length ≠ y.length ∨ sumA x ≠ sumA y ∨ sumE x ≠ sumE y) : checkSpec y (x.length : Int) (sumA x) (sumE x) = 17 := by
  unfold checkSpec
  rw [ofSpec_ok y hy (by omega)]
  simp only [if_true]
  rw [if_neg ?_]
  rintro ⟨a, b, c⟩
  rcases h with h | h | h <;> omega
theorem sumA_mid (a b : List Pay) (p : Pay) : sumA (a ++ p :: b) = sumA a + p.f1 + sumA b := by rw [sumA_append, sumA_cons]; omega
theorem sumE_mid (a b : List Pay) (p : Pay) : sumE (a ++ p :: b) = sumE a + p.f0 + sumE b := by rw [sumE_append, sumE_cons]; omega
theorem ControlDetects : payrolllaw39_ControlDetects.Pure := by
  intro l a1 a2 a3 _ _ _ _ _ _
  obtain ⟨K, hK⟩ : ∃ K : Nat, K = 20000 := ⟨_, rfl⟩
  refine ⟨K, ?_⟩
  unfold payrolllaw39_ControlDetects.f paygen_New.f
  rw [Option.bind_some]
  obtain ⟨x, at2, hx, hl, hb, _, _⟩ := payments_ok l 0 6 K (by omega) (by omega) (by omega) (by omega) (by omega)
  have haw := awake_ok K (by omega)
  have ho := ofSpec_ok x hb (by omega)
  have hck : checkSpec x (x.length : Int) (sumA x) (sumE x) = 0 := by
    unfold checkSpec; rw [ho]; simp
  rw [hx, Option.bind_some, of_eq x K (by omega), Option.bind_some, ho]
  simp only [if_true]
  rw [check_eq _ _ _ _ K (by omega), Option.bind_some, hck, if_pos rfl]
  by_cases h0 : (x.length : Int) = 0
  · rw [if_pos h0, haw]; rfl
  rw [if_neg h0]
  have mod_eq : ∀ v n : Int, 0 < n → n ≤ 4611686018427387904 → ∃ r, paygen_Mod.f v n = some r ∧ 0 ≤ r ∧ r < n := fun v n h1 h2 => mod_ok v n h1 h2
  obtain ⟨j, hj, j1, j2⟩ := mod_eq a1 (x.length : Int) (by omega) (by omega)
  obtain ⟨n, hn, n1, n2⟩ := mod_eq a3 1000 (by omega) (by omega)
  obtain ⟨m, hm, m1, m2⟩ := mod_eq a2 3 (by omega) (by omega)
  rw [hj, Option.bind_some, Option.bind_some]
  rw [if_pos (by simp; omega), Option.bind_some, hn, Option.bind_some, hm, Option.bind_some, List.nil_append]
  obtain ⟨i, rfl⟩ := Int.eq_ofNat_of_zero_le j1
  have hi : i < x.length := by omega
  have hsplit : x = x.take i ++ x[i] :: x.drop (i + 1) := by rw [List.getElem_cons_drop, List.take_append_drop]
  obtain ⟨pre, p, suf, rfl, hpl⟩ : ∃ pre p suf, x = pre ++ p :: suf ∧ pre.length = i := ⟨_, _, _, hsplit, by rw [List.length_take]; omega⟩
  have hrd : rd_T29 (pre ++ p :: suf) (i : Int) = p := by rw [← hpl]; exact rd_mid pre p suf
  have hset : ∀ q : Pay, (pre ++ p :: suf).set ((i : Int)).toNat q = pre ++ q :: suf := by
    intro q
    rw [Int.toNat_natCast, ← hpl, List.set_append_right _ _ (Nat.le_refl _)]; simp
  have her : (pre ++ p :: suf).eraseIdx ((i : Int)).toNat = pre ++ suf := by
    rw [Int.toNat_natCast, ← hpl, List.eraseIdx_append_of_length_le (Nat.le_refl _)]; simp
  have hall : pre.all payB = true ∧ payB p = true ∧ suf.all payB = true := by
    rw [List.all_append, List.all_cons, Bool.and_eq_true, Bool.and_eq_true] at hb
    exact hb
  have hp := hall.2.1
  simp only [payB, decide_eq_true_eq] at hp
  have hlen : (pre ++ p :: suf).length = pre.length + suf.length + 1 := by simp; omega
  have set_ok : ∀ q : Pay, payB q = true → (p.f1 ≠ q.f1 ∨ p.f0 ≠ q.f0) → control_Check.f K (pre ++ q :: suf) ((pre ++ p :: suf).length : Int) (sumA (pre ++ p :: suf)) (sumE (pre ++ p :: suf)) = some 17 := by
    intro q hq hne
    rw [check_eq _ _ _ _ K (by omega), differs _ _ hb (by rw [List.all_append, List.all_cons, hall.1, hq, hall.2.2]; rfl) (by omega) (by simp; omega) ?_]
    right
    rw [sumA_mid, sumA_mid, sumE_mid, sumE_mid]
    omega
  rw [hrd, hset, hset, hset, hset, her, wrap_id (x := 1 + n) (by omega) (by omega)]
  by_cases c0 : m = 0
  · rw [if_pos c0, if_pos (by omega), if_pos (by omega), wrap_id (x := (i : Int) + 1) (by omega) (by omega), if_pos (by omega), if_pos (by omega), check_eq _ _ _ _ K (by omega),
      differs _ _ hb (by rw [List.all_append, hall.1, hall.2.2]; rfl) (by omega) (by simp; omega) (by left; rw [hlen, List.length_append]; omega), Option.bind_some, if_pos rfl, haw]
    rfl
  rw [if_neg c0]
  by_cases c1 : m = 1
  · rw [if_pos c1, if_pos (by omega), if_pos (by omega), wrap_id (x := p.f1 + (1 + n)) (by omega) (by omega), wrap_id (x := p.f1 + -1) (by omega) (by omega)]
    by_cases c2 : p.f1 + (1 + n) > 1000000000000
    · rw [if_pos c2, if_neg (by omega), set_ok _ (by simp [payB]; omega) (by left; simp; omega), Option.bind_some, if_pos rfl, haw]; rfl
    · rw [if_neg c2, if_neg (by omega), set_ok _ (by simp [payB]; omega) (by left; simp; omega), Option.bind_some, if_pos rfl, haw]; rfl
  · rw [if_neg c1, if_pos (by omega), if_pos (by omega), wrap_id (x := p.f0 + (1 + n)) (by omega) (by omega), wrap_id (x := p.f0 + -1) (by omega) (by omega)]
    by_cases c2 : p.f0 + (1 + n) > 2147483647
    · rw [if_pos c2, set_ok _ (by simp [payB]; omega) (by right; simp; omega), Option.bind_some, if_pos rfl, haw]; rfl
    · rw [if_neg c2, set_ok _ (by simp [payB]; omega) (by right; simp; omega), Option.bind_some, if_pos rfl, haw]; rfl
end Go.Proofs.Ytdmcffabkeodpaa.Pure
