/- Names: package token and its reference answer the same. Plain Lean over the printed functions. -/
import Derived.Test.YtbmcddmhfnnccaaListKit2
import Derived.Test.YtbmcddmhfnnccaaQx4
import Derived.Test.YtbmcddmhfnnccaaQx11
namespace Go.Proofs.Ytbmcddmhfnnccaa.Lib17
open Go.RowKit Go.Proofs.Ytbmcddmhfnnccaa.Q Go.Proofs.YtbmcddmhfnnccaaW.PrintWords Go.Proofs.YtbmcddmhfnnccaaW.PrintLast Go.Proofs.Ytbmcddmhfnnccaa.MapKit Go.Proofs.Ytbmcddmhfnnccaa.ListKit
def letB (c : Int) : Bool := decide (97 ≤ c ∧ c ≤ 122)
def digB (c : Int) : Bool := decide (48 ≤ c ∧ c ≤ 57)
def wch (c : Int) : Bool := letB c || (digB c || decide (c = 95))
theorem letter_eq (c : Int) : token_letter.f c = some (letB c) := by
  unfold token_letter.f letB
  by_cases h : c ≥ 97
  · rw [if_pos h]; congr 1; exact decide_eq_decide.2 ⟨fun h2 => ⟨h, h2⟩, fun h2 => h2.2⟩
  · rw [if_neg h]; congr 1; exact (decide_eq_false (fun h2 => h h2.1)).symm
theorem digit_eq (c : Int) : token_digit.f c = some (digB c) := by
  unfold token_digit.f digB
  by_cases h : c ≥ 48
  · rw [if_pos h]; congr 1; exact decide_eq_decide.2 ⟨fun h2 => ⟨h, h2⟩, fun h2 => h2.2⟩
  · rw [if_neg h]; congr 1; exact (decide_eq_false (fun h2 => h h2.1)).symm
theorem lower_eq (c : Int) : payrollref17_lower.f c = some (letB c) := letter_eq c
theorem rdigit_eq (c : Int) : payrollref17_digit.f c = some (digB c) := digit_eq c
def allW (s : ByteArray) : Nat → Int → Bool
  | 0, _ => true
  | d + 1, i => wch (bt s i) && allW s d (i + 1)
def kw (s : ByteArray) : Bool := (keywords.lookup ⟨s⟩).getD false
theorem tok_loop (s : ByteArray) (hs : s.size ≤ 24) : ∀ (d : Nat) (i : Int), 0 ≤ i → i + d = s.size → Ev (fun k => token_IsName.l0 k s (s.size : Int) i) (allW s d i && !kw s) := by
  intro d
  induction d with
  | zero =>
    intro i h0 h1
    refine Ev.step (f := fun _ => some (!kw s)) (fun k => ?_) ((show (allW s 0 i && !kw s) = (!kw s) from Bool.true_and _) ▸ Ev.now _)
    simp only [token_IsName.l0]
    rw [if_neg (by omega)]
    simp [token_IsKeyword.f, hs, kw]
  | succ d ih =>
    intro i h0 h1
    have h2 := ih (i + 1) (by omega) (by omega)
    have hu : ∀ k, token_IsName.l0 (k + 1) s (s.size : Int) i = if wch (bt s i) = true then token_IsName.l0 k s (s.size : Int) (i + 1) else some false := fun k => by
      simp only [token_IsName.l0]
      rw [if_pos (by omega), if_pos h0, if_pos (by omega), letter_eq, Option.bind_some, digit_eq, Option.bind_some, wrapid (x := i + 1) (by omega) (by omega)]
      unfold wch
      cases letB (bt s i) <;> cases digB (bt s i) <;> by_cases h : bt s i = 95 <;> simp [h]
    unfold allW
    cases hw : wch (bt s i) with
    | true =>
      rw [Bool.true_and]
      refine Ev.step (fun k => ?_) h2
      rw [hu, hw, if_pos rfl]
    | false =>
      rw [Bool.false_and, Bool.false_and]
      refine Ev.step (f := fun _ => some false) (fun k => ?_) (Ev.now _)
      rw [hu, hw, if_neg (by simp)]
theorem word_loop (s : ByteArray) (hs : s.size ≤ 24) : ∀ (d : Nat) (i : Int), 0 ≤ i → i + d = s.size → ∃ r, Ev (fun k => payrollref17_word.l0 k s i) r ∧ i ≤ r ∧ (r = (s.size : Int) ↔ allW s d i = true) := by
  intro d
  induction d with
  | zero =>
    intro i h0 h1
    refine ⟨i, Ev.step (f := fun _ => some i) (fun k => ?_) (Ev.now _), by omega, by simp [allW]; omega⟩
    simp only [payrollref17_word.l0]
    rw [if_neg (by omega)]
  | succ d ih =>
    intro i h0 h1
    obtain ⟨r, h2, h3, h4⟩ := ih (i + 1) (by omega) (by omega)
    have hu : ∀ k, payrollref17_word.l0 (k + 1) s i = if wch (bt s i) = true then payrollref17_word.l0 k s (i + 1) else some i := fun k => by
      simp only [payrollref17_word.l0]
      rw [if_pos (by omega), if_pos h0, lower_eq, Option.bind_some, rdigit_eq, Option.bind_some, wrapid (x := i + 1) (by omega) (by omega)]
      unfold wch
      cases letB (bt s i) <;> cases digB (bt s i) <;> by_cases h : bt s i = 95 <;> simp [h]
    unfold allW
    cases hw : wch (bt s i) with
    | true =>
      refine ⟨r, Ev.step (fun k => ?_) h2, by omega, by rw [Bool.true_and]; exact h4⟩
      rw [hu, hw, if_pos rfl]
    | false =>
      refine ⟨i, Ev.step (f := fun _ => some i) (fun k => ?_) (Ev.now _), by omega, by simp; omega⟩
      rw [hu, hw, if_neg (by simp)]
theorem kw_loop (s : ByteArray) (L : List ByteArray) (hL : L.length ≤ 1000) : ∀ (suf pre : List ByteArray), L = pre ++ suf → Ev (fun k => payrollref17_IsKeyword.l0 k s L (pre.length : Int)) (suf.any fun w => decide (w.toList = s.toList)) := by
  intro suf
  induction suf with
  | nil =>
    intro pre h
    refine Ev.step (f := fun _ => some false) (fun k => ?_) (Ev.now _)
    simp only [payrollref17_IsKeyword.l0]
    rw [if_neg (by rw [h]; simp)]
  | cons w suf ih =>
    intro pre h
    have h2 := ih (pre ++ [w]) (by rw [h]; simp)
    have hlen : L.length = pre.length + suf.length + 1 := by rw [h]; simp; omega
    have hrd : rdOf ByteArray.empty L (pre.length : Int) = w := by rw [h]; simp [rdOf, List.getD_eq_getElem?_getD]
    have hu : ∀ k, payrollref17_IsKeyword.l0 (k + 1) s L (pre.length : Int) = if w.toList = s.toList then some true else payrollref17_IsKeyword.l0 k s L ((pre ++ [w]).length : Int) := fun k => by
      simp only [payrollref17_IsKeyword.l0]
      rw [if_pos (by omega), if_pos (by omega), hrd, wrapid (x := (pre.length : Int) + 1) (by omega) (by omega)]
      simp
    rw [List.any_cons]
    by_cases hw : w.toList = s.toList
    · rw [decide_eq_true hw, Bool.true_or]
      refine Ev.step (f := fun _ => some true) (fun k => ?_) (Ev.now _)
      rw [hu, if_pos hw]
    · rw [decide_eq_false hw, Bool.false_or]
      refine Ev.step (fun k => ?_) h2
      rw [hu, if_neg hw]
theorem lookup_any (x : Str) : ∀ l : List (Str × Bool), (∀ p ∈ l, p.2 = true) → (l.lookup x).getD false = l.any fun p => decide (p.1 = x)
  | [], _ => rfl
  | (a, b) :: r, h => by
    have hb : b = true := h (a, b) List.mem_cons_self
    have ih := lookup_any x r (fun p hp => h p (List.mem_cons_of_mem _ hp))
    by_cases e : x = a
    · subst e; simp [List.lookup, hb]
    · have e2 : (x == a) = false := beq_eq_false_iff_ne.2 e
      simp [List.lookup, e2, ih, Ne.symm e]
theorem kw_any (s : ByteArray) (L : List ByteArray) (h1 : ∀ p ∈ keywords, p.2 = true) (h2 : ∀ p ∈ keywords, p.1 ∈ L.map Str.mk) (h3 : ∀ w ∈ L.map Str.mk, w ∈ keywords.map (·.1)) : (L.any fun w => decide (w.toList = s.toList)) = kw s := by
  unfold kw
  rw [lookup_any _ _ h1, Bool.eq_iff_iff, List.any_eq_true, List.any_eq_true]
  constructor
  · rintro ⟨w, hw, e⟩
    have e' : w = s := toList_inj (of_decide_eq_true e)
    subst e'
    obtain ⟨p, hp, he⟩ := List.mem_map.1 (h3 _ (List.mem_map.2 ⟨w, hw, rfl⟩))
    exact ⟨p, hp, decide_eq_true he⟩
  · rintro ⟨p, hp, e⟩
    obtain ⟨w, hw, he⟩ := List.mem_map.1 (h2 p hp)
    refine ⟨w, hw, decide_eq_true ?_⟩
    have : p.1 = ⟨s⟩ := of_decide_eq_true e
    rw [this] at he
    injection he with he
    rw [he]
theorem rkw_shape : ∃ L : List ByteArray, (∀ k s, payrollref17_IsKeyword.f k s = payrollref17_IsKeyword.l0 k s L 0) ∧ L.length ≤ 1000 ∧ (∀ p ∈ keywords, p.1 ∈ L.map Str.mk) ∧ ∀ w ∈ L.map Str.mk, w ∈ keywords.map (·.1) :=
  ⟨_, fun _ _ => rfl, by decide +kernel, by decide +kernel, by decide +kernel⟩
theorem rkw_ev (s : ByteArray) : Ev (fun k => payrollref17_IsKeyword.f k s) (kw s) := by
  obtain ⟨L, h1, h2, h3, h4⟩ := rkw_shape
  have h := kw_loop s L h2 L [] rfl
  rw [kw_any s L (by decide +kernel) h3 h4] at h
  exact Ev.congr (fun k => h1 k s) h
def nameS (s : ByteArray) : Bool := decide (0 < s.size ∧ s.size ≤ 24) && (letB (bt s 0) && (allW s s.size 0 && !kw s))
theorem nil_iff (s : ByteArray) : s.toList = ([] : List UInt8) ↔ s.size = 0 := by
  rw [ByteArray.toList_eq]
  rw [← List.length_eq_zero_iff]
  rfl
theorem name_ev (s : ByteArray) : Ev (fun k => token_IsName.f k s) (nameS s) := by
  have hj : Ev (fun k => token_IsName.j0 k s true) false := Ev.step (f := fun _ => some false) (fun k => by simp [token_IsName.j0]) (Ev.now _)
  unfold token_IsName.f
  by_cases h0 : s.toList = ([] : List UInt8)
  · have e : nameS s = false := by rw [nil_iff] at h0; simp [nameS, h0]
    rw [e]
    exact Ev.congr (fun k => if_pos h0) hj
  refine Ev.congr (fun k => if_neg h0) ?_
  rw [nil_iff] at h0
  by_cases h1 : (s.size : Int) > 24
  · have e : nameS s = false := by simp [nameS]; intro _ _; omega
    rw [e]
    exact Ev.congr (fun k => if_pos h1) hj
  refine Ev.congr (fun k => (if_neg h1).trans ((if_pos (by omega)).trans (by rw [letter_eq, Option.bind_some]))) ?_
  have e0 : decide (0 < s.size ∧ s.size ≤ 24) = true := decide_eq_true (by omega)
  unfold nameS
  rw [e0, Bool.true_and]
  cases hl : letB (bt s 0) with
  | false => exact hj
  | true =>
    rw [Bool.true_and]
    exact Ev.step (fun k => by simp only [token_IsName.j0]; rw [if_neg (by simp)]) (tok_loop s (by omega) s.size 0 (by omega) (by omega))
theorem rname_ev (s : ByteArray) : Ev (fun k => payrollref17_IsName.f k s) (nameS s) := by
  unfold payrollref17_IsName.f
  by_cases h0 : s.toList = ([] : List UInt8)
  · have e : nameS s = false := by rw [nil_iff] at h0; simp [nameS, h0]
    rw [e]
    exact Ev.congr (fun k => if_pos h0) (Ev.now _)
  refine Ev.congr (fun k => if_neg h0) ?_
  rw [nil_iff] at h0
  by_cases h1 : (s.size : Int) ≤ 24
  case neg =>
    have e : nameS s = false := by simp [nameS]; intro _ _; omega
    rw [e]
    exact Ev.congr (fun k => if_neg h1) (Ev.now _)
  refine Ev.congr (fun k => if_pos h1) ?_
  have e0 : decide (0 < s.size ∧ s.size ≤ 24) = true := decide_eq_true (by omega)
  unfold nameS
  rw [e0, Bool.true_and]
  cases hl : letB (bt s 0) with
  | false =>
    have hw : Ev (fun k => payrollref17_word.f k s 0) 0 := by
      unfold payrollref17_word.f
      refine Ev.congr (fun k => (if_neg (by omega)).trans ((if_pos (by omega)).trans ((if_pos (by omega)).trans (by rw [lower_eq, hl, Option.bind_some])))) ?_
      exact Ev.step (f := fun _ => some 0) (fun k => by simp [payrollref17_word.j0]) (Ev.now _)
    refine Ev.bind hw ?_
    exact Ev.congr (fun k => if_neg (by omega)) (Ev.now _)
  | true =>
    obtain ⟨r, h2, h3, h4⟩ := word_loop s (by omega) s.size 0 (by omega) (by omega)
    have hw : Ev (fun k => payrollref17_word.f k s 0) r := by
      unfold payrollref17_word.f
      refine Ev.congr (fun k => (if_neg (by omega)).trans ((if_pos (by omega)).trans ((if_pos (by omega)).trans (by rw [lower_eq, hl, Option.bind_some])))) ?_
      exact Ev.step (fun k => by simp only [payrollref17_word.j0]; rw [if_neg (by simp)]) h2
    refine Ev.bind hw ?_
    rw [Bool.true_and]
    by_cases hr : r = (s.size : Int)
    · rw [h4.1 hr, Bool.true_and]
      exact Ev.congr (fun k => if_pos hr) (Ev.bind (rkw_ev s) (Ev.now _))
    · have : allW s s.size 0 = false := by
        cases h : allW s s.size 0 with
        | false => rfl
        | true => exact absurd (h4.2 h) hr
      rw [this, Bool.false_and]
      exact Ev.congr (fun k => if_neg hr) (Ev.now _)
end Go.Proofs.Ytbmcddmhfnnccaa.Lib17
