/- Combining payments keeps their sum and what each employee gets, its results ascend by employee, and combining again changes nothing: for all drawn payments. -/
import Derived.Test.YtdmcffabkeodpaaLib39b
import Derived.Test.YtdmcffabkeodpaaQx5
namespace Go.Proofs.Ytdmcffabkeodpaa.Pure
open Go.RowKit Go.Proofs.Ytdmcffabkeodpaa.Q Go.Proofs.YtdmcffabkeodpaaW.PrintWords Go.Proofs.YtdmcffabkeodpaaW.PrintLast Go.Proofs.Ytdmcffabkeodpaa.DeckLib Go.Proofs.Ytdmcffabkeodpaa.Lib39 Go.Proofs.Ytdmcffabkeodpaa.ListKit Go.Proofs.Ytdmcffabkeodpaa.MapKit
theorem rd_at (l : List Pay) (i : Nat) (h : i < l.length) : rd_T29 l (i : Int) = l[i] := by
  simp [rd_T29, List.getD_eq_getElem?_getD, List.getElem?_eq_getElem h]
theorem l1_ok (x : List Pay) (m : List (Int × Int)) (hm : Asc ltI m) (hl : m.length ≤ 1000) (B : Nat) (h : ∀ j, B ≤ j → payrolllaw39_ControlKeeps.l2 j x (toPays m) 1 = some true) (d : Nat) : ∀ (i k : Nat), 1 ≤ i → m.length ≤ d + i → i ≤ 1001 → B + d ≤ k → payrolllaw39_ControlKeeps.l1 (k + 1) x (toPays m) (i : Int) = some true := by
  have hlen : (toPays m).length = m.length := by simp [toPays]
  induction d with
  | zero =>
    intro i k h1 h2 _ h3
    simp only [payrolllaw39_ControlKeeps.l1]
    rw [if_neg (by omega)]
    exact h k (by omega)
  | succ d ih =>
    intro i k h1 h2 h4 h3
    simp only [payrolllaw39_ControlKeeps.l1]
    by_cases c : (i : Int) < ((toPays m).length : Int)
    · rw [if_pos c]
      have e : wrap64 ((i : Int) - 1) = ((i - 1 : Nat) : Int) := by rw [wrap_id (by omega) (by omega)]; omega
      have hi : i < m.length := by omega
      rw [e, if_pos (by omega), if_pos (by omega), if_pos (by omega), rd_at _ _ (by omega), rd_at _ _ (by omega)]
      have ha := List.pairwise_iff_getElem.1 hm (i - 1) i (by omega) hi (by omega)
      rw [if_neg (by simp [toPays, ltI] at ha ⊢; omega), wrap_id (by omega) (by omega)]
      obtain ⟨k, rfl⟩ : ∃ j, k = j + 1 := ⟨k - 1, by omega⟩
      exact ih (i + 1) k (by omega) (by omega) (by omega) (by omega)
    · rw [if_neg c]
      exact h k (by omega)
theorem l3_ok (x a : List Pay) (n : Int) : ∀ (suf pre : List Pay) (k : Nat) (s : Int), x = pre ++ suf → x.length ≤ 1000 → (∀ p ∈ suf, 0 ≤ p.f1) → 0 ≤ s → s + sumA suf ≤ 1000000000000 → payrolllaw39_ControlKeeps.l4 k x a n (s + sumAt suf n) 0 0 = some true →
    ∀ K, K = k + suf.length + 1 → payrolllaw39_ControlKeeps.l3 K x a n s 0 (pre.length : Int) = some true := by
  intro suf
  induction suf with
  | nil =>
    intro pre k s hx hl _ _ _ h K hK
    obtain rfl : K = k + 1 := by simpa using hK
    simp only [payrolllaw39_ControlKeeps.l3]
    rw [if_neg (by rw [hx]; simp)]
    simpa [sumAt] using h
  | cons p suf ih =>
    intro pre k s hx hl hp hs hb h K hK
    rw [List.length_cons] at hK
    obtain ⟨K, rfl⟩ : ∃ m, K = m + 1 := ⟨K - 1, by omega⟩
    have hlt : (pre.length : Int) < (x.length : Int) := by rw [hx]; simp; omega
    have hp0 := hp p List.mem_cons_self
    have hps : ∀ q ∈ suf, 0 ≤ q.f1 := fun q hq => hp q (List.mem_cons_of_mem _ hq)
    have hsb := sumAt_bounds n suf hps
    rw [sumA_cons] at hb
    rw [sumAt_cons] at h
    simp only [payrolllaw39_ControlKeeps.l3]
    rw [if_pos hlt, if_pos (Int.natCast_nonneg _)]
    have hrd : rd_T29 x (pre.length : Int) = p := by rw [hx]; exact rd_mid pre p suf
    rw [hrd, wrap_id (x := (pre.length : Int) + 1) (by omega) (by omega)]
    have hx2 : x = (pre ++ [p]) ++ suf := by simp [hx]
    by_cases c : p.f0 = n
    · rw [if_pos c, wrap_id (by omega) (by omega)]
      rw [if_pos c, ← Int.add_assoc] at h
      have := ih (pre ++ [p]) k (s + p.f1) hx2 hl hps (by omega) (by omega) h K (by omega)
      rwa [len_mid pre p suf] at this
    · rw [if_neg c]
      rw [if_neg c, Int.zero_add] at h
      have := ih (pre ++ [p]) k s hx2 hl hps hs (by omega) h K (by omega)
      rwa [len_mid pre p suf] at this
theorem l4_ok (x a : List Pay) (n s : Int) : ∀ (suf pre : List Pay) (k : Nat) (t : Int), a = pre ++ suf → a.length ≤ 1000 → (∀ p ∈ suf, 0 ≤ p.f1) → 0 ≤ t → t + sumA suf ≤ 1000000000000 → s = t + sumAt suf n → payrolllaw39_ControlKeeps.l2 k x a (wrap64 (n + 1)) = some true →
    ∀ K, K = k + suf.length + 1 → payrolllaw39_ControlKeeps.l4 K x a n s t (pre.length : Int) = some true := by
  intro suf
  induction suf with
  | nil =>
    intro pre k t hx hl _ _ _ hst h K hK
    obtain rfl : K = k + 1 := by simpa using hK
    simp only [payrolllaw39_ControlKeeps.l4]
    rw [if_neg (by rw [hx]; simp), if_pos (by simpa [sumAt] using hst)]
    exact h
  | cons p suf ih =>
    intro pre k t hx hl hp hs hb hst h K hK
    rw [List.length_cons] at hK
    obtain ⟨K, rfl⟩ : ∃ m, K = m + 1 := ⟨K - 1, by omega⟩
    have hlt : (pre.length : Int) < (a.length : Int) := by rw [hx]; simp; omega
    have hp0 := hp p List.mem_cons_self
    have hps : ∀ q ∈ suf, 0 ≤ q.f1 := fun q hq => hp q (List.mem_cons_of_mem _ hq)
    have hsb := sumAt_bounds n suf hps
    rw [sumA_cons] at hb
    rw [sumAt_cons] at hst
    simp only [payrolllaw39_ControlKeeps.l4]
    rw [if_pos hlt, if_pos (Int.natCast_nonneg _)]
    have hrd : rd_T29 a (pre.length : Int) = p := by rw [hx]; exact rd_mid pre p suf
    rw [hrd, wrap_id (x := (pre.length : Int) + 1) (by omega) (by omega)]
    have hx2 : a = (pre ++ [p]) ++ suf := by simp [hx]
    by_cases c : p.f0 = n
    · rw [if_pos c, wrap_id (by omega) (by omega)]
      rw [if_pos c, ← Int.add_assoc] at hst
      have := ih (pre ++ [p]) k (t + p.f1) hx2 hl hps (by omega) (by omega) hst h K (by omega)
      rwa [len_mid pre p suf] at this
    · rw [if_neg c]
      rw [if_neg c, Int.zero_add] at hst
      have := ih (pre ++ [p]) k t hx2 hl hps hs (by omega) hst h K (by omega)
      rwa [len_mid pre p suf] at this
theorem l2_ok (x a : List Pay) (hx : x.length ≤ 1000) (ha : a.length ≤ 1000) (px : ∀ p ∈ x, 0 ≤ p.f1) (pa : ∀ p ∈ a, 0 ≤ p.f1) (sx : sumA x ≤ 1000000000000) (sa : sumA a ≤ 1000000000000) (hs : ∀ e, sumAt a e = sumAt x e) (d : Nat) :
    ∀ (n : Int) (k : Nat), n = 5 - d → d ≤ 4 → 10 + d * (x.length + a.length + 3) ≤ k → payrolllaw39_ControlKeeps.l2 (k + 1) x a n = some true := by
  induction d with
  | zero =>
    intro n k hn _ hk
    simp only [payrolllaw39_ControlKeeps.l2]
    rw [if_neg (by omega), awake_ok k (by omega)]
    rfl
  | succ d ih =>
    intro n k hn hd hk
    simp only [payrolllaw39_ControlKeeps.l2]
    rw [if_pos (by omega)]
    have e : k = (10 + d * (x.length + a.length + 3) + (k - (10 + (d + 1) * (x.length + a.length + 3))) + 1 + a.length + 1) + x.length + 1 := by
      rw [Nat.succ_mul] at hk ⊢; omega
    rw [e]
    refine l3_ok x a n x [] _ 0 rfl hx px (by omega) (by omega) ?_ _ rfl
    refine l4_ok x a n _ a [] _ 0 rfl ha pa (by omega) (by omega) (by rw [hs n]) ?_ _ rfl
    rw [wrap_id (by omega) (by omega)]
    exact ih (n + 1) _ (by omega) (by omega) (by omega)
theorem sumA_le : ∀ x : List Pay, (∀ p ∈ x, 1 ≤ p.f1 ∧ p.f1 ≤ 600000) → 0 ≤ sumA x ∧ sumA x ≤ x.length * 600000 := by
  intro x
  induction x with
  | nil => intro _; simp [sumA]
  | cons p r ih =>
    intro h
    have h1 := ih (fun q hq => h q (List.mem_cons_of_mem _ hq))
    have h2 := h p List.mem_cons_self
    rw [sumA_cons, List.length_cons]
    omega
/-- What follows the drawing, for payments in bounds. -/
theorem tail_ok (x : List Pay) (l : List Int) (at_ : Int) (k : Nat) (hl : x.length ≤ 10) (hp : ∀ p ∈ x, 1 ≤ p.f0 ∧ p.f0 ≤ 4 ∧ 1 ≤ p.f1 ∧ p.f1 ≤ 600000) (hk : 10000 ≤ k) : payrolllaw39_ControlKeeps.l0 (k + 1) x 0 l at_ = some true := by
  have hsum := sumA_le x (fun p h => ⟨(hp p h).2.2.1, (hp p h).2.2.2⟩)
  have px : ∀ p ∈ x, 0 ≤ p.f1 := fun p h => by have := hp p h; omega
  have hall : x.all payB = true := by
    rw [List.all_eq_true]; intro p h; have := hp p h; simp [payB]; omega
  have ho : ofSpec x = ((x.length : Int), sumA x, sumE x, 0) := by unfold ofSpec; rw [if_neg (by omega), if_pos hall]
  have hmem : ∀ q ∈ paySums x, 1 ≤ q.1 ∧ q.1 ≤ 4 ∧ 1 ≤ q.2 ∧ q.2 ≤ 6000000 := by
    intro q hq
    obtain ⟨p, hpx, he⟩ := paySums_keys x q hq
    have hlk := lookup_of_mem ((paySums_asc x).nodup orderI) (x := q.1) (c := q.2) hq
    rw [paySums_lookup x px (by omega)] at hlk
    have hh : hasE x q.1 = true := by simp [hasE]; exact ⟨p, hpx, he⟩
    rw [if_pos hh] at hlk
    have hq2 := Option.some.inj hlk
    have hb := sumAt_bounds q.1 x px
    have h4 := hp p hpx
    refine ⟨by omega, by omega, ?_, by omega⟩
    have : ∀ y : List Pay, (∀ p ∈ y, 0 ≤ p.f1) → p ∈ y → p.f1 ≤ sumAt y p.f0 := by
      intro y
      induction y with
      | nil => intro _ h; cases h
      | cons b r ih =>
        intro hy hm
        have hr := fun q hq => hy q (List.mem_cons_of_mem b hq)
        have h0 := hy b List.mem_cons_self
        rw [sumAt_cons]
        rcases List.mem_cons.1 hm with h | h
        · subst h; rw [if_pos rfl]; have := (sumAt_bounds p.f0 r hr).1; omega
        · have := ih hr h; split <;> omega
    have := this x px hpx
    rw [he] at this
    omega
  have hlen : (paySums x).length ≤ x.length := paySums_len x
  have hc : combSpec x = (toPays (paySums x), 0) := by
    unfold combSpec
    rw [ho, if_pos rfl, if_neg ?_]
    · rfl
    · rw [Bool.not_eq_true, List.any_eq_false]; intro q hq; have := hmem q hq; simp; omega
  have hpa : ∀ p ∈ toPays (paySums x), 1 ≤ p.f0 ∧ p.f0 ≤ 4 ∧ 1 ≤ p.f1 ∧ p.f1 ≤ 6000000 := by
    intro p h
    obtain ⟨q, hq, rfl⟩ := List.mem_map.1 h
    exact hmem q hq
  have pa : ∀ p ∈ toPays (paySums x), 0 ≤ p.f1 := fun p h => by have := hpa p h; omega
  have hsa := sumA_comb x px (by omega)
  have hla : (toPays (paySums x)).length ≤ 10 := by simp [toPays]; omega
  have halla : (toPays (paySums x)).all payB = true := by
    rw [List.all_eq_true]; intro p h; have := hpa p h; simp [payB]; omega
  have hoa : ofSpec (toPays (paySums x)) = (((toPays (paySums x)).length : Int), sumA (toPays (paySums x)), sumE (toPays (paySums x)), 0) := by unfold ofSpec; rw [if_neg (by omega), if_pos halla]
  have hca : combSpec (toPays (paySums x)) = (toPays (paySums x), 0) := by
    unfold combSpec
    rw [hoa, if_pos rfl, paySums_again x px (by omega) pa (by omega), if_neg ?_]
    · rfl
    · rw [Bool.not_eq_true, List.any_eq_false]; intro q hq; have := hmem q hq; simp; omega
  simp only [payrolllaw39_ControlKeeps.l0]
  rw [if_neg (by omega), comb_eq x k (by omega), Option.bind_some, hc]
  simp only []
  rw [comb_eq _ k (by omega), Option.bind_some, hca, of_eq x k (by omega), Option.bind_some, of_eq _ k (by omega), Option.bind_some, ho, hoa]
  simp only [if_true, hsa]
  rw [same_self _ k (by omega) (by omega), Option.bind_some, if_pos rfl]
  obtain ⟨k, rfl⟩ : ∃ j, k = j + 1 := ⟨k - 1, by omega⟩
  have hlm : (toPays (paySums x)).length = (paySums x).length := by simp [toPays]
  refine l1_ok x (paySums x) (paySums_asc x) (by omega) 1000 (fun j hj => ?_) (paySums x).length 1 k (by omega) (by omega) (by omega) (by omega)
  obtain ⟨j, rfl⟩ : ∃ i, j = i + 1 := ⟨j - 1, by omega⟩
  exact l2_ok x _ (by omega) (by omega) px pa (by omega) (by omega) (fun e => sumAt_comb x px (by omega) e) 4 1 j (by omega) (by omega) (by omega)
theorem draw_ok (l : List Int) (d : Nat) : ∀ (x : List Pay) (at_ : Int) (k : Nat), x.length + d ≤ 10 → (∀ p ∈ x, 1 ≤ p.f0 ∧ p.f0 ≤ 4 ∧ 1 ≤ p.f1 ∧ p.f1 ≤ 600000) → 0 ≤ at_ → at_ + 3 * d ≤ 1000 → 10000 + d ≤ k → payrolllaw39_ControlKeeps.l0 (k + 1) x (d : Int) l at_ = some true := by
  induction d with
  | zero => intro x at_ k hl hp _ _ hk; exact tail_ok x l at_ k (by omega) hp (by omega)
  | succ d ih =>
    intro x at_ k hl hp h0 h1 hk
    simp only [payrolllaw39_ControlKeeps.l0]
    rw [if_pos (by omega)]
    obtain ⟨r, hr, a, b⟩ := next_ok l at_ 4 h0 (by omega) (by omega) (by omega)
    obtain ⟨q, a2, hq, c, e, rfl⟩ := small_ok l (at_ + 1) (by omega) (by omega)
    rw [hr]; simp only [Option.bind_some]
    rw [hq]; simp only [Option.bind_some]
    rw [if_pos (by omega), wrap_id (x := 1 + r) (by omega) (by omega), wrap_id (x := 1 + q) (by omega) (by omega), wrap_id (by omega) (by omega)]
    obtain ⟨k, rfl⟩ : ∃ j, k = j + 1 := ⟨k - 1, by omega⟩
    have := ih (x ++ [⟨1 + r, 1 + q⟩]) (at_ + 1 + 2) k (by simp; omega) (fun p hp' => by
      rcases List.mem_append.1 hp' with h | h
      · exact hp p h
      · rw [List.mem_singleton] at h; subst h; exact ⟨by simp; omega, by simp; omega, by simp; omega, by simp; omega⟩) (by omega) (by omega) (by omega)
    rwa [show ((d + 1 : Nat) : Int) - 1 = (d : Int) by omega]
theorem ControlKeeps : payrolllaw39_ControlKeeps.Pure := by
  intro l _ _ _
  obtain ⟨K, hK⟩ : ∃ K : Nat, K = 20000 := ⟨_, rfl⟩
  refine ⟨K + 1, ?_⟩
  unfold payrolllaw39_ControlKeeps.f paygen_New.f
  simp only [Option.bind_some]
  obtain ⟨r, hr, a, b⟩ := next_ok l 0 10 (by omega) (by omega) (by omega) (by omega)
  rw [hr]; simp only [Option.bind_some]
  obtain ⟨d, rfl⟩ := Int.eq_ofNat_of_zero_le a
  exact draw_ok l d [] _ K (by simp; omega) (by simp) (by omega) (by omega) (by omega)
end Go.Proofs.Ytdmcffabkeodpaa.Pure
