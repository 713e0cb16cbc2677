/- What the draws of a deck answer: plain Lean over the printed functions. -/
import Derived.Test.YtbmcddmhfnnccaaQx10
namespace Go.Proofs.Ytbmcddmhfnnccaa.DeckLib
open Go.RowKit Go.Proofs.Ytbmcddmhfnnccaa.Q Go.Proofs.YtbmcddmhfnnccaaW.PrintWords Go.Proofs.YtbmcddmhfnnccaaW.PrintLast
theorem wrap_id {x : Int} (h : -9223372036854775808 ≤ x) (h2 : x ≤ 9223372036854775807) : wrap64 x = x := by unfold wrap64; omega
theorem tmod_pos (a n : Int) (hn : 0 < n) : -n < Int.tmod a n ∧ Int.tmod a n < n := by
  have h1 := Int.tmod_lt_of_pos a hn
  have h2 := Int.tmod_lt_of_pos (-a) hn
  rw [Int.neg_tmod] at h2
  omega
/-- The numbers drawn so far stay small. -/
def DOk (at_ : Int) (c : Int) : Prop := 0 ≤ at_ ∧ at_ ≤ c
theorem next_ok (l : List Int) (at_ n : Int) (h0 : 0 ≤ at_) (h1 : at_ ≤ 4611686018427387904) (hn : 0 < n) (hn2 : n ≤ 4611686018427387904) : ∃ r, paygen_Deck_Next.f l at_ n = some (r, at_ + 1) ∧ 0 ≤ r ∧ r < n := by
  have key : ∀ v : Int, ∃ r, (if Int.tmod v n < 0 then some (wrap64 (Int.tmod v n + n), wrap64 (at_ + 1)) else some (Int.tmod v n, wrap64 (at_ + 1))) = some (r, at_ + 1) ∧ 0 ≤ r ∧ r < n := by
    intro v
    obtain ⟨ha, hb⟩ := tmod_pos v n hn
    have hw : wrap64 (at_ + 1) = at_ + 1 := wrap_id (by omega) (by omega)
    by_cases c : Int.tmod v n < 0
    · rw [if_pos c, hw, wrap_id (by omega) (by omega)]
      exact ⟨_, rfl, by omega, by omega⟩
    · rw [if_neg c, hw]
      exact ⟨_, rfl, by omega, by omega⟩
  unfold paygen_Deck_Next.f
  by_cases c : at_ < (l.length : Int)
  · rw [if_pos c, if_pos h0, if_neg (by omega)]; exact key _
  · rw [if_neg c, if_neg (by omega)]; exact key _
theorem pick_ok (l : List Int) (at_ : Int) (xs : List Int) (h0 : 0 ≤ at_) (h1 : at_ ≤ 4611686018427387904) (hx : 0 < xs.length) (hx2 : xs.length ≤ 1000) : ∃ r, paygen_Deck_Pick.f l at_ xs = some (r, at_ + 1) ∧ r ∈ xs := by
  obtain ⟨r, hr, a, b⟩ := next_ok l at_ (xs.length : Int) h0 h1 (by omega) (by omega)
  unfold paygen_Deck_Pick.f
  rw [hr]; simp only [Option.bind_some]
  rw [if_pos a, if_pos b]
  refine ⟨_, rfl, ?_⟩
  have : r.toNat < xs.length := by omega
  simp [rd, List.getD_eq_getElem?_getD, List.getElem?_eq_getElem this]
theorem mod_ok (v n : Int) (hn : 0 < n) (hn2 : n ≤ 4611686018427387904) : ∃ r, (if n = 0 then (none : Option Int) else (if Int.tmod v n < 0 then some (wrap64 (Int.tmod v n + n)) else some (Int.tmod v n))) = some r ∧ 0 ≤ r ∧ r < n := by
  obtain ⟨ha, hb⟩ := tmod_pos v n hn
  rw [if_neg (by omega)]
  by_cases c : Int.tmod v n < 0
  · rw [if_pos c, wrap_id (by omega) (by omega)]
    exact ⟨_, rfl, by omega, by omega⟩
  · rw [if_neg c]
    exact ⟨_, rfl, by omega, by omega⟩
end Go.Proofs.Ytbmcddmhfnnccaa.DeckLib
