/- The combined and the divided payments are those of the reference, or its errors: for drawn payments and for payments of any content. -/
import Derived.Test.YtdmcffabkeodpaaLib39d
import Derived.Test.YtdmcffabkeodpaaQx13
namespace Go.Proofs.Ytdmcffabkeodpaa.Pure
open Go.RowKit Go.Proofs.Ytdmcffabkeodpaa.Q Go.Proofs.YtdmcffabkeodpaaW.PrintWords Go.Proofs.YtdmcffabkeodpaaW.PrintLast Go.Proofs.Ytdmcffabkeodpaa.DeckLib Go.Proofs.Ytdmcffabkeodpaa.Lib39 Go.Proofs.Ytdmcffabkeodpaa.ListKit Go.Proofs.Ytdmcffabkeodpaa.MapKit
theorem combSpec_len (l : List Pay) : (combSpec l).1.length ≤ l.length := by
  unfold combSpec
  by_cases h : (ofSpec l).2.2.2 = 0
  · rw [if_pos h]
    by_cases c : (paySums l).any (fun p => decide (p.2 > 1000000000000)) = true
    · rw [if_pos c]; simp
    · rw [if_neg c]; simpa using paySums_len l
  · rw [if_neg h]; simp
theorem le_sum : ∀ (l : List Nat) (n : Nat), n ∈ l → n ≤ l.sum := by
  intro l
  induction l with
  | nil => intro n h; cases h
  | cons a l ih =>
    intro n h
    rw [List.sum_cons]
    rcases List.mem_cons.1 h with rfl | h
    · omega
    · have := ih n h; omega
theorem splitSpec_ok (l : List Pay) (hl : l.length ≤ 100) (n : Int) : (if (ofSpec l).2.2.2 = 0 then (if n < 1 then (([], 2) : List (List Pay) × Int) else (chunks l.length n.toNat l, 0)) else ([], (ofSpec l).2.2.2)).1.length ≤ 100 ∧ ∀ c ∈ (if (ofSpec l).2.2.2 = 0 then (if n < 1 then (([], 2) : List (List Pay) × Int) else (chunks l.length n.toNat l, 0)) else ([], (ofSpec l).2.2.2)).1, c.length ≤ 100 := by
  by_cases h : (ofSpec l).2.2.2 = 0
  · rw [if_pos h]
    by_cases c : n < 1
    · rw [if_pos c]; simp
    · rw [if_neg c]
      obtain ⟨c1, c2, c3⟩ := chunks_ok n.toNat (by omega) l.length l (Nat.le_refl _)
      refine ⟨by simp only []; omega, fun x hx => ?_⟩
      have h1 : x.length ≤ (chunks l.length n.toNat l).flatten.length := by
        rw [List.length_flatten]
        exact le_sum _ _ (List.mem_map.2 ⟨x, hx, rfl⟩)
      rw [c1] at h1
      omega
  · rw [if_neg h]; simp
theorem ControlCombines : ∀ (l : List Int) (raw : List Pay) (most : Int), ∃ k, payrolllaw39_ControlCombines.f k l raw most = some true := by
  intro l raw most
  obtain ⟨K, hK⟩ : ∃ K : Nat, K = 3000001 := ⟨_, rfl⟩
  refine ⟨K, ?_⟩
  have haw := awake_ok K (by omega)
  unfold payrolllaw39_ControlCombines.f
  by_cases hr : (raw.length : Int) > 60
  · rw [if_pos hr, haw]; rfl
  rw [if_neg hr]
  unfold paygen_New.f
  rw [Option.bind_some]
  obtain ⟨x, at2, hx, hl, hb, a1, a2⟩ := payments_ok l 0 10 K (by omega) (by omega) (by omega) (by omega) (by omega)
  rw [hx, Option.bind_some]
  obtain ⟨n, hn, _⟩ := pick_ok l at2 [1, 2, 3, 100, 0, -1] a1 (by omega) (by simp) (by simp)
  rw [hn, Option.bind_some]
  rw [comb_eq x K (by omega), Option.bind_some, rcomb_eq x (by omega) K (by omega), Option.bind_some, comb_eq raw K (by omega), Option.bind_some, rcomb_eq raw (by omega) K (by omega), Option.bind_some,
    split_eq x _ K (by omega), Option.bind_some, rsplit_eq x _ K (by omega), Option.bind_some, split_eq raw _ K (by omega), Option.bind_some, rsplit_eq raw _ K (by omega), Option.bind_some]
  have s1 := splitSpec_ok x (by omega) n
  have s2 := splitSpec_ok raw (by omega) most
  rw [if_pos rfl, same_self _ K (by have := combSpec_len x; omega) (by have := combSpec_len x; omega), Option.bind_some, if_pos rfl, if_pos rfl, same_self _ K (by have := combSpec_len raw; omega) (by have := combSpec_len raw; omega), Option.bind_some, if_pos rfl, if_pos rfl,
    lists_self _ (by have := s1.1; simp only [] at this ⊢; omega) (fun c hc => by have := s1.2 c hc; omega) K (by omega), Option.bind_some, if_pos rfl, if_pos rfl, lists_self _ (by omega) (fun c hc => by have := s2.2 c hc; omega) K (by omega), Option.bind_some, if_pos rfl, haw]
  rfl
end Go.Proofs.Ytdmcffabkeodpaa.Pure
