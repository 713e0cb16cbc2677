/- What the draws of amounts and codes answer: plain Lean over the printed functions. -/
import Derived.Test.YtbmcddmhfnnccaaDeckLib0
import Derived.Test.YtbmcddmhfnnccaaQx10
namespace Go.Proofs.Ytbmcddmhfnnccaa.DeckLib
open Go.RowKit Go.Proofs.Ytbmcddmhfnnccaa.Q Go.Proofs.YtbmcddmhfnnccaaW.PrintWords Go.Proofs.YtbmcddmhfnnccaaW.PrintLast
theorem amount_ok (l : List Int) (at_ : Int) (h0 : 0 ≤ at_) (h1 : at_ ≤ 4611686018427387900) : ∃ r at2, paygen_Deck_Amount.f l at_ = some (r, at2) ∧ 0 ≤ r ∧ r ≤ 1000000000 ∧ at2 = at_ + 2 := by
  obtain ⟨r, hr, a, b⟩ := next_ok l at_ 6 h0 (by omega) (by omega) (by omega)
  unfold paygen_Deck_Amount.f
  rw [hr]; simp only [Option.bind_some]
  by_cases c : r = 0
  · rw [if_pos c]
    obtain ⟨q, hq, hm⟩ := pick_ok l (at_ + 1) [0, 1, 99, 100, 101] (by omega) (by omega) (by simp) (by simp)
    rw [hq]; simp only [Option.bind_some]
    refine ⟨q, _, rfl, ?_, ?_, by omega⟩ <;> (simp at hm; omega)
  · rw [if_neg c]
    by_cases c2 : r = 1
    · rw [if_pos c2]
      obtain ⟨q, hq, hm⟩ := pick_ok l (at_ + 1) [1000000000, 999999999, 500000000, 100000000] (by omega) (by omega) (by simp) (by simp)
      rw [hq]; simp only [Option.bind_some]
      refine ⟨q, _, rfl, ?_, ?_, by omega⟩ <;> (simp at hm; omega)
    · rw [if_neg c2]
      obtain ⟨q, hq, a2, b2⟩ := next_ok l (at_ + 1) 600000 (by omega) (by omega) (by omega) (by omega)
      rw [hq]; simp only [Option.bind_some]
      exact ⟨q, _, rfl, a2, by omega, by omega⟩
theorem code_some (l : List Int) (at_ : Int) (h0 : 0 ≤ at_) (h1 : at_ ≤ 4611686018427387900) : ∃ s, paygen_Deck_Code.f l at_ = some (s, at_ + 1) := by
  obtain ⟨r, hr, a, b⟩ := next_ok l at_ 8 h0 (by omega) (by omega) (by omega)
  unfold paygen_Deck_Code.f
  simp only [Option.bind_some, hr, List.length_cons, List.length_nil]
  rw [if_pos a, if_pos (by omega)]
  exact ⟨_, rfl⟩
end Go.Proofs.Ytbmcddmhfnnccaa.DeckLib
