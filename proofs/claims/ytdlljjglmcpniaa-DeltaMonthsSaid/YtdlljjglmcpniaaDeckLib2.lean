/- What more draws of a deck answer: plain Lean over the printed functions. -/
import Derived.Test.YtdlljjglmcpniaaDeckLib
import Derived.Test.YtdlljjglmcpniaaQx12
namespace Go.Proofs.Ytdlljjglmcpniaa.DeckLib
open Go.RowKit Go.Proofs.Ytdlljjglmcpniaa.Q Go.Proofs.YtdlljjglmcpniaaW.PrintWords Go.Proofs.YtdlljjglmcpniaaW.PrintLast
theorem amount_ok (l : List Int) (at_ : Int) (h0 : 0 ≤ at_) (h1 : at_ ≤ 4611686018427387900) : ∃ r at2, paygen_Deck_Amount.f l at_ = some (r, at2) ∧ 0 ≤ r ∧ r ≤ 1000000000 ∧ at2 = at_ + 2 := by
  obtain ⟨r, hr, a, b⟩ := next_ok l at_ 6 h0 (by omega) (by omega) (by omega)
  unfold paygen_Deck_Amount.f
  rw [hr]; simp only [Option.bind_some]
  by_cases c : r = 0
  · rw [if_pos c]
    obtain ⟨q, hq, hm⟩ := pick_ok l (at_ + 1) [0, 1, 99, 100, 101] (by omega) (by omega) (by simp) (by simp)
    rw [hq]; simp only [Option.bind_some]
    refine ⟨q, _, rfl, ?_, ?_, by omega⟩ <;> (simp at hm; omega)
  · rw [if_neg c]
    by_cases c2 : r = 1
    · rw [if_pos c2]
      obtain ⟨q, hq, hm⟩ := pick_ok l (at_ + 1) [1000000000, 999999999, 500000000, 100000000] (by omega) (by omega) (by simp) (by simp)
      rw [hq]; simp only [Option.bind_some]
      refine ⟨q, _, rfl, ?_, ?_, by omega⟩ <;> (simp at hm; omega)
    · rw [if_neg c2]
      obtain ⟨q, hq, a2, b2⟩ := next_ok l (at_ + 1) 600000 (by omega) (by omega) (by omega) (by omega)
      rw [hq]; simp only [Option.bind_some]
      exact ⟨q, _, rfl, a2, by omega, by omega⟩
theorem rate_ok (l : List Int) (at_ : Int) (h0 : 0 ≤ at_) (h1 : at_ ≤ 4611686018427387900) : ∃ r at2, paygen_Deck_Rate.f l at_ = some (r, at2) ∧ 0 ≤ r ∧ r ≤ 1000000 ∧ at2 = at_ + 2 := by
  obtain ⟨r, hr, a, b⟩ := next_ok l at_ 1000001 h0 (by omega) (by omega) (by omega)
  unfold paygen_Deck_Rate.f
  rw [hr]; simp only [Option.bind_some]
  obtain ⟨q, hq, hm⟩ := pick_ok l (at_ + 1) [0, 1, 75000, 93000, 200000, 333333, 420000, 500000, 1000000, r] (by omega) (by omega) (by simp) (by simp)
  rw [hq]; simp only [Option.bind_some]
  refine ⟨q, _, rfl, ?_, ?_, by omega⟩ <;> (simp at hm; omega)
end Go.Proofs.Ytdlljjglmcpniaa.DeckLib
