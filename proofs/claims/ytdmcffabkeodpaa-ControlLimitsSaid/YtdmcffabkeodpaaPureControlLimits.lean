/- At 4095 to 4097 payments the control totals, the combined and the divided payments are as specified, or the error at the limit: for every number. -/
import Derived.Test.YtdmcffabkeodpaaLib39c
import Derived.Test.YtdmcffabkeodpaaQx15
import Derived.Test.YtdmcffabkeodpaaQx6
namespace Go.Proofs.Ytdmcffabkeodpaa.Pure
open Go.RowKit Go.Proofs.Ytdmcffabkeodpaa.Q Go.Proofs.YtdmcffabkeodpaaW.PrintWords Go.Proofs.YtdmcffabkeodpaaW.PrintLast Go.Proofs.Ytdmcffabkeodpaa.DeckLib Go.Proofs.Ytdmcffabkeodpaa.Lib39 Go.Proofs.Ytdmcffabkeodpaa.ListKit Go.Proofs.Ytdmcffabkeodpaa.MapKit
theorem sumA_rep (n : Nat) : sumA (List.replicate n ⟨1, 1⟩) = n := by
  induction n with
  | zero => rfl
  | succ n ih => rw [List.replicate_succ, sumA_cons, ih]; simp; omega
theorem sumE_rep (n : Nat) : sumE (List.replicate n ⟨1, 1⟩) = n := by
  induction n with
  | zero => rfl
  | succ n ih => rw [List.replicate_succ, sumE_cons, ih]; simp; omega
theorem sumAt_rep (n : Nat) : sumAt (List.replicate n ⟨1, 1⟩) 1 = n := by
  induction n with
  | zero => rfl
  | succ n ih => rw [List.replicate_succ, sumAt_cons, ih]; simp; omega
theorem paySums_rep (n : Nat) (hn : 1 ≤ n) (hn2 : n ≤ 5000) : paySums (List.replicate n ⟨1, 1⟩) = [(1, (n : Int))] := by
  have hp : ∀ p ∈ List.replicate n (⟨1, 1⟩ : Pay), 0 ≤ p.f1 := fun p h => by rw [List.eq_of_mem_replicate h]; decide
  have hl := paySums_lookup _ hp (by rw [sumA_rep]; omega) 1
  have hh : hasE (List.replicate n ⟨1, 1⟩) 1 = true := by simp [hasE]; omega
  rw [if_pos hh, sumAt_rep] at hl
  have hm := mem_of_lookup hl
  have hk : ∀ q ∈ paySums (List.replicate n ⟨1, 1⟩), q.1 = 1 := by
    intro q hq
    obtain ⟨p, hp, e⟩ := paySums_keys _ q hq
    rw [List.eq_of_mem_replicate hp] at e
    exact e.symm
  have ha := paySums_asc (List.replicate n ⟨1, 1⟩)
  match hps : paySums (List.replicate n ⟨1, 1⟩), hm, hk, ha with
  | [], hm, _, _ => cases hm
  | [q], hm, _, _ => rw [List.mem_singleton] at hm; rw [← hm]
  | q :: r :: t, _, hk, ha =>
    have := (List.pairwise_cons.1 ha).1 r (List.mem_cons_self)
    rw [hk q List.mem_cons_self, hk r (List.mem_cons_of_mem _ List.mem_cons_self)] at this
    simp [ltI] at this
theorem ofSpec_rep (n : Nat) (hn : n ≤ 4096) : ofSpec (List.replicate n ⟨1, 1⟩) = ((n : Int), (n : Int), (n : Int), 0) := by
  unfold ofSpec
  rw [if_neg (by simp; omega), if_pos ?_, sumA_rep, sumE_rep, List.length_replicate]
  rw [List.all_eq_true]; intro p h; rw [List.eq_of_mem_replicate h]; decide
theorem ofSpec_big (n : Nat) (hn : 4096 < n) : ofSpec (List.replicate n ⟨1, 1⟩) = (0, 0, 0, 3) := by
  unfold ofSpec
  rw [if_pos (by simp; omega)]
theorem limits_tail (n K : Nat) (h1 : 4095 ≤ n) (h2 : n ≤ 4097) (hK : 10000 ≤ K) : payrolllaw39_ControlLimits.l0 (K + 1) (n : Int) (List.replicate n ⟨1, 1⟩) (n : Int) = some true := by
  simp only [payrolllaw39_ControlLimits.l0]
  rw [if_neg (by omega), of_eq _ K (by omega), Option.bind_some, comb_eq _ K (by omega), Option.bind_some, split_eq _ _ K (by omega), Option.bind_some]
  by_cases c : n ≤ 4096
  · have ho := ofSpec_rep n c
    have hc : combSpec (List.replicate n ⟨1, 1⟩) = ([⟨1, (n : Int)⟩], 0) := by
      unfold combSpec
      rw [ho, if_pos rfl, paySums_rep n (by omega) (by omega), if_neg (by simp; omega)]
      rfl
    have hch : chunks (List.replicate n (⟨1, 1⟩ : Pay)).length ((n : Int)).toNat (List.replicate n ⟨1, 1⟩) = [List.replicate n ⟨1, 1⟩] := by
      rw [List.length_replicate]
      obtain ⟨m, rfl⟩ : ∃ m, n = m + 1 := ⟨n - 1, by omega⟩
      simp only [chunks]
      rw [if_neg (by simp), List.take_of_length_le (by simp), List.drop_eq_nil_of_le (by simp)]
      cases m <;> simp [chunks]
    rw [ho, hc, hch]
    simp only []
    rw [if_neg (show ¬ (n : Int) < 1 by omega), if_neg (show ¬ (n : Int) > 4096 by omega)]
    simp [awake_ok K (by omega), rd_T29, rd_L2]
  · have ho := ofSpec_big n (by omega)
    have hc : combSpec (List.replicate n ⟨1, 1⟩) = ([], 3) := by unfold combSpec; rw [ho]; rfl
    have hck : checkSpec (List.replicate n ⟨1, 1⟩) (n : Int) (n : Int) (n : Int) = 3 := by unfold checkSpec; rw [ho]; rfl
    rw [check_eq _ _ _ _ K (by omega), ho, hc, hck, if_pos (show (n : Int) > 4096 by omega)]
    simp [awake_ok K (by omega)]
theorem fill_ok (n : Nat) (h1 : 4095 ≤ n) (h2 : n ≤ 4097) (d : Nat) : ∀ (i K : Nat), i + d = n → 10000 + d ≤ K → payrolllaw39_ControlLimits.l0 (K + 1) (n : Int) (List.replicate i ⟨1, 1⟩ ++ List.replicate d z29) (i : Int) = some true := by
  induction d with
  | zero =>
    intro i K hi hK
    obtain rfl : i = n := by omega
    rw [List.replicate_zero, List.append_nil]
    exact limits_tail i K h1 h2 (by omega)
  | succ d ih =>
    intro i K hi hK
    simp only [payrolllaw39_ControlLimits.l0]
    rw [if_pos (by omega), if_pos (by omega), if_pos (by simp; omega), wrap_id (by omega) (by omega)]
    have hs : (List.replicate i (⟨1, 1⟩ : Pay) ++ List.replicate (d + 1) z29).set ((i : Int)).toNat ⟨1, 1⟩ = List.replicate (i + 1) ⟨1, 1⟩ ++ List.replicate d z29 := by
      rw [List.replicate_succ, Int.toNat_natCast, List.set_append_right _ _ (by simp)]
      simp [List.replicate_succ']
    rw [hs]
    obtain ⟨K, rfl⟩ : ∃ j, K = j + 1 := ⟨K - 1, by omega⟩
    exact ih (i + 1) K (by omega) (by omega)
theorem ControlLimits : payrolllaw39_ControlLimits.Pure := by
  intro a _
  obtain ⟨K, hK⟩ : ∃ K : Nat, K = 20000 := ⟨_, rfl⟩
  refine ⟨K + 1, ?_⟩
  unfold payrolllaw39_ControlLimits.f paygen_Mod.f
  obtain ⟨r, hr, h1, h2⟩ := mod_ok a 3 (by omega) (by omega)
  rw [hr, Option.bind_some, wrap_id (by omega) (by omega), if_pos (by omega), if_pos (by omega)]
  obtain ⟨m, rfl⟩ := Int.eq_ofNat_of_zero_le h1
  have := fill_ok (4095 + m) (by omega) (by omega) (4095 + m) 0 K (by omega) (by omega)
  rw [show (4095 : Int) + (m : Int) = ((4095 + m : Nat) : Int) by omega, Int.toNat_natCast]
  simpa using this
end Go.Proofs.Ytdmcffabkeodpaa.Pure
