/- Names: package token and its reference answer the same. Plain Lean over the printed functions. -/
import Derived.Test.YtdlljjglmcpniaaListKit2
import Derived.Test.YtdlljjglmcpniaaQx3
import Derived.Test.YtdlljjglmcpniaaQx0
import Derived.Test.YtdlljjglmcpniaaQx6
namespace Go.Proofs.Ytdlljjglmcpniaa.Lib17
open Go.RowKit Go.Proofs.Ytdlljjglmcpniaa.Q Go.Proofs.YtdlljjglmcpniaaW.PrintWords Go.Proofs.YtdlljjglmcpniaaW.PrintLast Go.Proofs.Ytdlljjglmcpniaa.MapKit Go.Proofs.Ytdlljjglmcpniaa.ListKit
def letB (c : Int) : Bool := decide (97 ≤ c ∧ c ≤ 122)
def digB (c : Int) : Bool := decide (48 ≤ c ∧ c ≤ 57)
def wch (c : Int) : Bool := letB c || (digB c || decide (c = 95))
theorem letter_eq (c : Int) : token_letter.f c = some (letB c) := by
  unfold token_letter.f letB
  by_cases h : c ≥ 97
  · rw [if_pos h]; congr 1; exact decide_eq_decide.2 ⟨fun h2 => ⟨h, h2⟩, fun h2 => h2.2⟩
  · rw [if_neg h]; congr 1; exact (decide_eq_false (fun h2 => h h2.1)).symm
theorem digit_eq (c : Int) : token_digit.f c = some (digB c) := by
  unfold token_digit.f digB
  by_cases h : c ≥ 48
  · rw [if_pos h]; congr 1; exact decide_eq_decide.2 ⟨fun h2 => ⟨h, h2⟩, fun h2 => h2.2⟩
  · rw [if_neg h]; congr 1; exact (decide_eq_false (fun h2 => h h2.1)).symm
def allW (s : ByteArray) : Nat → Int → Bool
  | 0, _ => true
  | d + 1, i => wch (bt s i) && allW s d (i + 1)
def kw (s : ByteArray) : Bool := (keywords.lookup ⟨s⟩).getD false
theorem tok_loop (s : ByteArray) (hs : s.size ≤ 24) : ∀ (d : Nat) (i : Int), 0 ≤ i → i + d = s.size → Ev (fun k => token_IsName.l0 k s (s.size : Int) i) (allW s d i && !kw s) := by
  intro d
  induction d with
  | zero =>
    intro i h0 h1
    refine Ev.step (f := fun _ => some (!kw s)) (fun k => ?_) ((show (allW s 0 i && !kw s) = (!kw s) from Bool.true_and _) ▸ Ev.now _)
    simp only [token_IsName.l0]
    rw [if_neg (by omega)]
    simp [token_IsKeyword.f, hs, kw]
  | succ d ih =>
    intro i h0 h1
    have h2 := ih (i + 1) (by omega) (by omega)
    have hu : ∀ k, token_IsName.l0 (k + 1) s (s.size : Int) i = if wch (bt s i) = true then token_IsName.l0 k s (s.size : Int) (i + 1) else some false := fun k => by
      simp only [token_IsName.l0]
      rw [if_pos (by omega), if_pos h0, if_pos (by omega), letter_eq, Option.bind_some, digit_eq, Option.bind_some, wrapid (x := i + 1) (by omega) (by omega)]
      unfold wch
      cases letB (bt s i) <;> cases digB (bt s i) <;> by_cases h : bt s i = 95 <;> simp [h]
    unfold allW
    cases hw : wch (bt s i) with
    | true =>
      rw [Bool.true_and]
      refine Ev.step (fun k => ?_) h2
      rw [hu, hw, if_pos rfl]
    | false =>
      rw [Bool.false_and, Bool.false_and]
      refine Ev.step (f := fun _ => some false) (fun k => ?_) (Ev.now _)
      rw [hu, hw, if_neg (by simp)]
def nameS (s : ByteArray) : Bool := decide (0 < s.size ∧ s.size ≤ 24) && (letB (bt s 0) && (allW s s.size 0 && !kw s))
theorem nil_iff (s : ByteArray) : s.toList = ([] : List UInt8) ↔ s.size = 0 := by
  rw [ByteArray.toList_eq]
  rw [← List.length_eq_zero_iff]
  rfl
theorem name_ev (s : ByteArray) : Ev (fun k => token_IsName.f k s) (nameS s) := by
  have hj : Ev (fun k => token_IsName.j0 k s true) false := Ev.step (f := fun _ => some false) (fun k => by simp [token_IsName.j0]) (Ev.now _)
  unfold token_IsName.f
  by_cases h0 : s.toList = ([] : List UInt8)
  · have e : nameS s = false := by rw [nil_iff] at h0; simp [nameS, h0]
    rw [e]
    exact Ev.congr (fun k => if_pos h0) hj
  refine Ev.congr (fun k => if_neg h0) ?_
  rw [nil_iff] at h0
  by_cases h1 : (s.size : Int) > 24
  · have e : nameS s = false := by simp [nameS]; intro _ _; omega
    rw [e]
    exact Ev.congr (fun k => if_pos h1) hj
  refine Ev.congr (fun k => (if_neg h1).trans ((if_pos (by omega)).trans (by rw [letter_eq, Option.bind_some]))) ?_
  have e0 : decide (0 < s.size ∧ s.size ≤ 24) = true := decide_eq_true (by omega)
  unfold nameS
  rw [e0, Bool.true_and]
  cases hl : letB (bt s 0) with
  | false => exact hj
  | true =>
    rw [Bool.true_and]
    exact Ev.step (fun k => by simp only [token_IsName.j0]; rw [if_neg (by simp)]) (tok_loop s (by omega) s.size 0 (by omega) (by omega))
end Go.Proofs.Ytdlljjglmcpniaa.Lib17
