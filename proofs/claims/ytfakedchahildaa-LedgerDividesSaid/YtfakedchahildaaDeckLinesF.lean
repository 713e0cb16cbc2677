/- What the draws of lines answer: plain Lean over the printed functions. -/
import Derived.Test.YtfakedchahildaaDeckLib
import Derived.Test.YtfakedchahildaaLib34f
import Derived.Test.YtfakedchahildaaQx10
namespace Go.Proofs.Ytfakedchahildaa.DeckLib
open Go.RowKit Go.Proofs.Ytfakedchahildaa.Q Go.Proofs.YtfakedchahildaaW.PrintWords Go.Proofs.YtfakedchahildaaW.PrintLast Go.Proofs.Ytfakedchahildaa.MapKit Go.Proofs.Ytfakedchahildaa.ListKit Go.Proofs.Ytfakedchahildaa.Lib17 Go.Proofs.Ytfakedchahildaa.Lib34
/-- The codes that a deck draws. -/
def codes8 : List ByteArray := [(⟨#[98, 111, 110, 117, 115]⟩ : ByteArray), (⟨#[99, 97, 114]⟩ : ByteArray), (⟨#[110, 105, 103, 104, 116]⟩ : ByteArray), (⟨#[115, 97, 108, 97, 114, 121]⟩ : ByteArray), (⟨#[97]⟩ : ByteArray), (⟨#[98]⟩ : ByteArray), (⟨#[120, 49]⟩ : ByteArray), (⟨#[97, 98, 99, 100, 101, 102, 103, 104, 105, 106, 107, 108, 109, 110, 111, 112, 113, 114, 115, 116, 117, 118, 119, 120]⟩ : ByteArray)]
def inCodes (s : ByteArray) : Bool := codes8.any fun c => decide (c.toList = s.toList)
theorem code_shape : ∃ L : List ByteArray, (∀ l at_, paygen_Deck_Code.f l at_ = (paygen_Deck_Next.f l at_ 8).bind fun bt => if 0 ≤ bt.1 then (if bt.1 < (L.length : Int) then some (rdOf ByteArray.empty L bt.1, bt.2) else none) else none) ∧ L.length = 8 ∧ ∀ s ∈ L, nameS s = true ∧ inCodes s = true :=
  ⟨_, fun _ _ => rfl, rfl, by decide +kernel⟩
theorem code_ok (l : List Int) (at_ : Int) (h0 : 0 ≤ at_) (h1 : at_ ≤ 4611686018427387900) : ∃ s, paygen_Deck_Code.f l at_ = some (s, at_ + 1) ∧ nameS s = true ∧ inCodes s = true := by
  obtain ⟨L, h, hl, hn⟩ := code_shape
  obtain ⟨r, hr, a, b⟩ := next_ok l at_ 8 h0 (by omega) (by omega) (by omega)
  rw [h, hr, Option.bind_some]
  simp only []
  rw [if_pos a, if_pos (by omega)]
  refine ⟨_, rfl, hn _ ?_⟩
  have : r.toNat < L.length := by omega
  simp [rdOf, List.getD_eq_getElem?_getD, List.getElem?_eq_getElem this]
theorem line_ok (l : List Int) (at_ : Int) (h0 : 0 ≤ at_) (h1 : at_ ≤ 4611686018427387800) : ∃ a s n at2, paygen_Deck_Line.f l at_ = some (a, s, n, at2) ∧ formS a s n = true ∧ (codedB a = true → inCodes s = true) ∧ n ≠ 0 ∧ -600000 ≤ n ∧ n ≤ 600000 ∧ at_ ≤ at2 ∧ at2 ≤ at_ + 5 := by
  unfold paygen_Deck_Line.f
  obtain ⟨r, hr, r0, r1⟩ := next_ok l at_ 10 h0 (by omega) (by omega) (by omega)
  rw [hr]; simp only [Option.bind_some]
  obtain ⟨x, t, hx, p, q, e⟩ := small_ok l (at_ + 1) (by omega) (by omega)
  rw [hx]; simp only [Option.bind_some]
  rw [bare_eq, Option.bind_some, wrap_id (x := 1 + r) (by omega) (by omega), wrap_id (x := 1 + x) (by omega) (by omega), wrap_id (x := -(1 + x)) (by omega) (by omega)]
  have hf : ∀ (s : ByteArray) (n : Int), -600000 ≤ n → n ≤ 600000 → (if codedB (1 + r) = true then nameS s else decide (s.toList = ([] : List UInt8))) = true → formS (1 + r) s n = true := by
    intro s n hn1 hn2 hs
    unfold formS
    rw [hs, decide_eq_true (by omega), show tot n = true from decide_eq_true (by omega)]
    rfl
  cases hc : codedB (1 + r) with
  | false =>
    rw [hc] at hf
    simp only [Bool.not_false, if_true]
    obtain ⟨y, hy, y0, y1⟩ := next_ok l t 3 (by omega) (by omega) (by omega) (by omega)
    rw [hy]; simp only [Option.bind_some]
    have hnil : (if false = true then nameS (⟨#[]⟩ : ByteArray) else decide ((⟨#[]⟩ : ByteArray).toList = ([] : List UInt8))) = true := by
      rw [if_neg (by simp)]; exact decide_eq_true ((nil_iff _).2 rfl)
    by_cases c : y = 0
    · rw [if_pos c]
      exact ⟨_, _, _, _, rfl, hf _ _ (by omega) (by omega) hnil, (fun h => by rw [hc] at h; cases h), by omega, by omega, by omega, by omega, by omega⟩
    · rw [if_neg c]
      exact ⟨_, _, _, _, rfl, hf _ _ (by omega) (by omega) hnil, (fun h => by rw [hc] at h; cases h), by omega, by omega, by omega, by omega, by omega⟩
  | true =>
    rw [hc] at hf
    simp only [Bool.not_true, Bool.false_eq_true, if_false]
    obtain ⟨s, hs, hn, hn8⟩ := code_ok l t (by omega) (by omega)
    rw [hs]; simp only [Option.bind_some]
    obtain ⟨y, hy, y0, y1⟩ := next_ok l (t + 1) 3 (by omega) (by omega) (by omega) (by omega)
    rw [hy]; simp only [Option.bind_some]
    have hnm : (if true = true then nameS s else decide (s.toList = ([] : List UInt8))) = true := by rw [if_pos rfl]; exact hn
    by_cases c : y = 0
    · rw [if_pos c]
      exact ⟨_, _, _, _, rfl, hf _ _ (by omega) (by omega) hnm, (fun _ => hn8), by omega, by omega, by omega, by omega, by omega⟩
    · rw [if_neg c]
      exact ⟨_, _, _, _, rfl, hf _ _ (by omega) (by omega) hnm, (fun _ => hn8), by omega, by omega, by omega, by omega, by omega⟩
end Go.Proofs.Ytfakedchahildaa.DeckLib
