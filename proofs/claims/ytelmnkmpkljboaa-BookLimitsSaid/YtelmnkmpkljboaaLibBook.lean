import Derived.Test.YtelmnkmpkljboaaListKit2
import Derived.Test.YtelmnkmpkljboaaQx3
import Derived.Test.YtelmnkmpkljboaaQx10
import Derived.Test.YtelmnkmpkljboaaQx6
import Derived.Test.YtelmnkmpkljboaaQx0
import Derived.Test.YtelmnkmpkljboaaQx11
import Derived.Test.YtelmnkmpkljboaaQx1
import Derived.Test.YtelmnkmpkljboaaQx4
import Derived.Test.YtelmnkmpkljboaaQx5
import Derived.Test.YtelmnkmpkljboaaQx12
import Derived.Test.YtelmnkmpkljboaaQx16
import Derived.Test.YtelmnkmpkljboaaQx9
import Derived.Test.YtelmnkmpkljboaaQx7
/- Names: package token and its reference answer the same. Plain Lean over the printed functions. -/
namespace Go.Proofs.Ytelmnkmpkljboaa.Lib17
open Go.RowKit Go.Proofs.Ytelmnkmpkljboaa.Q Go.Proofs.YtelmnkmpkljboaaW.PrintWords Go.Proofs.YtelmnkmpkljboaaW.PrintLast Go.Proofs.Ytelmnkmpkljboaa.MapKit Go.Proofs.Ytelmnkmpkljboaa.ListKit
def letB (c : Int) : Bool := decide (97 ≤ c ∧ c ≤ 122)
def digB (c : Int) : Bool := decide (48 ≤ c ∧ c ≤ 57)
def wch (c : Int) : Bool := letB c || (digB c || decide (c = 95))
theorem letter_eq (c : Int) : token_letter.f c = some (letB c) := by
  unfold token_letter.f letB
  by_cases h : c ≥ 97
  · rw [if_pos h]; congr 1; exact decide_eq_decide.2 ⟨fun h2 => ⟨h, h2⟩, fun h2 => h2.2⟩
  · rw [if_neg h]; congr 1; exact (decide_eq_false (fun h2 => h h2.1)).symm
theorem digit_eq (c : Int) : token_digit.f c = some (digB c) := by
  unfold token_digit.f digB
  by_cases h : c ≥ 48
  · rw [if_pos h]; congr 1; exact decide_eq_decide.2 ⟨fun h2 => ⟨h, h2⟩, fun h2 => h2.2⟩
  · rw [if_neg h]; congr 1; exact (decide_eq_false (fun h2 => h h2.1)).symm
theorem lower_eq (c : Int) : payrollref17_lower.f c = some (letB c) := letter_eq c
theorem rdigit_eq (c : Int) : payrollref17_digit.f c = some (digB c) := digit_eq c
def allW (s : ByteArray) : Nat → Int → Bool
  | 0, _ => true
  | d + 1, i => wch (bt s i) && allW s d (i + 1)
def kw (s : ByteArray) : Bool := (keywords.lookup ⟨s⟩).getD false
theorem tok_loop (s : ByteArray) (hs : s.size ≤ 24) : ∀ (d : Nat) (i : Int), 0 ≤ i → i + d = s.size → Ev (fun k => token_IsName.l0 k s (s.size : Int) i) (allW s d i && !kw s) := by
  intro d
  induction d with
  | zero =>
    intro i h0 h1
    refine Ev.step (f := fun _ => some (!kw s)) (fun k => ?_) ((show (allW s 0 i && !kw s) = (!kw s) from Bool.true_and _) ▸ Ev.now _)
    simp only [token_IsName.l0]
    rw [if_neg (by omega)]
    simp [token_IsKeyword.f, hs, kw]
  | succ d ih =>
    intro i h0 h1
    have h2 := ih (i + 1) (by omega) (by omega)
    have hu : ∀ k, token_IsName.l0 (k + 1) s (s.size : Int) i = if wch (bt s i) = true then token_IsName.l0 k s (s.size : Int) (i + 1) else some false := fun k => by
      simp only [token_IsName.l0]
      rw [if_pos (by omega), if_pos h0, if_pos (by omega), letter_eq, Option.bind_some, digit_eq, Option.bind_some, wrapid (x := i + 1) (by omega) (by omega)]
      unfold wch
      cases letB (bt s i) <;> cases digB (bt s i) <;> by_cases h : bt s i = 95 <;> simp [h]
    unfold allW
    cases hw : wch (bt s i) with
    | true =>
      rw [Bool.true_and]
      refine Ev.step (fun k => ?_) h2
      rw [hu, hw, if_pos rfl]
    | false =>
      rw [Bool.false_and, Bool.false_and]
      refine Ev.step (f := fun _ => some false) (fun k => ?_) (Ev.now _)
      rw [hu, hw, if_neg (by simp)]
theorem word_loop (s : ByteArray) (hs : s.size ≤ 24) : ∀ (d : Nat) (i : Int), 0 ≤ i → i + d = s.size → ∃ r, Ev (fun k => payrollref17_word.l0 k s i) r ∧ i ≤ r ∧ (r = (s.size : Int) ↔ allW s d i = true) := by
  intro d
  induction d with
  | zero =>
    intro i h0 h1
    refine ⟨i, Ev.step (f := fun _ => some i) (fun k => ?_) (Ev.now _), by omega, by simp [allW]; omega⟩
    simp only [payrollref17_word.l0]
    rw [if_neg (by omega)]
  | succ d ih =>
    intro i h0 h1
    obtain ⟨r, h2, h3, h4⟩ := ih (i + 1) (by omega) (by omega)
    have hu : ∀ k, payrollref17_word.l0 (k + 1) s i = if wch (bt s i) = true then payrollref17_word.l0 k s (i + 1) else some i := fun k => by
      simp only [payrollref17_word.l0]
      rw [if_pos (by omega), if_pos h0, lower_eq, Option.bind_some, rdigit_eq, Option.bind_some, wrapid (x := i + 1) (by omega) (by omega)]
      unfold wch
      cases letB (bt s i) <;> cases digB (bt s i) <;> by_cases h : bt s i = 95 <;> simp [h]
    unfold allW
    cases hw : wch (bt s i) with
    | true =>
      refine ⟨r, Ev.step (fun k => ?_) h2, by omega, by rw [Bool.true_and]; exact h4⟩
      rw [hu, hw, if_pos rfl]
    | false =>
      refine ⟨i, Ev.step (f := fun _ => some i) (fun k => ?_) (Ev.now _), by omega, by simp; omega⟩
      rw [hu, hw, if_neg (by simp)]
theorem kw_loop (s : ByteArray) (L : List ByteArray) (hL : L.length ≤ 1000) : ∀ (suf pre : List ByteArray), L = pre ++ suf → Ev (fun k => payrollref17_IsKeyword.l0 k s L (pre.length : Int)) (suf.any fun w => decide (w.toList = s.toList)) := by
  intro suf
  induction suf with
  | nil =>
    intro pre h
    refine Ev.step (f := fun _ => some false) (fun k => ?_) (Ev.now _)
    simp only [payrollref17_IsKeyword.l0]
    rw [if_neg (by rw [h]; simp)]
  | cons w suf ih =>
    intro pre h
    have h2 := ih (pre ++ [w]) (by rw [h]; simp)
    have hlen : L.length = pre.length + suf.length + 1 := by rw [h]; simp; omega
    have hrd : rdOf ByteArray.empty L (pre.length : Int) = w := by rw [h]; simp [rdOf, List.getD_eq_getElem?_getD]
    have hu : ∀ k, payrollref17_IsKeyword.l0 (k + 1) s L (pre.length : Int) = if w.toList = s.toList then some true else payrollref17_IsKeyword.l0 k s L ((pre ++ [w]).length : Int) := fun k => by
      simp only [payrollref17_IsKeyword.l0]
      rw [if_pos (by omega), if_pos (by omega), hrd, wrapid (x := (pre.length : Int) + 1) (by omega) (by omega)]
      simp
    rw [List.any_cons]
    by_cases hw : w.toList = s.toList
    · rw [decide_eq_true hw, Bool.true_or]
      refine Ev.step (f := fun _ => some true) (fun k => ?_) (Ev.now _)
      rw [hu, if_pos hw]
    · rw [decide_eq_false hw, Bool.false_or]
      refine Ev.step (fun k => ?_) h2
      rw [hu, if_neg hw]
theorem lookup_any (x : Str) : ∀ l : List (Str × Bool), (∀ p ∈ l, p.2 = true) → (l.lookup x).getD false = l.any fun p => decide (p.1 = x)
  | [], _ => rfl
  | (a, b) :: r, h => by
    have hb : b = true := h (a, b) List.mem_cons_self
    have ih := lookup_any x r (fun p hp => h p (List.mem_cons_of_mem _ hp))
    by_cases e : x = a
    · subst e; simp [List.lookup, hb]
    · have e2 : (x == a) = false := beq_eq_false_iff_ne.2 e
      simp [List.lookup, e2, ih, Ne.symm e]
theorem kw_any (s : ByteArray) (L : List ByteArray) (h1 : ∀ p ∈ keywords, p.2 = true) (h2 : ∀ p ∈ keywords, p.1 ∈ L.map Str.mk) (h3 : ∀ w ∈ L.map Str.mk, w ∈ keywords.map (·.1)) : (L.any fun w => decide (w.toList = s.toList)) = kw s := by
  unfold kw
  rw [lookup_any _ _ h1, Bool.eq_iff_iff, List.any_eq_true, List.any_eq_true]
  constructor
  · rintro ⟨w, hw, e⟩
    have e' : w = s := toList_inj (of_decide_eq_true e)
    subst e'
    obtain ⟨p, hp, he⟩ := List.mem_map.1 (h3 _ (List.mem_map.2 ⟨w, hw, rfl⟩))
    exact ⟨p, hp, decide_eq_true he⟩
  · rintro ⟨p, hp, e⟩
    obtain ⟨w, hw, he⟩ := List.mem_map.1 (h2 p hp)
    refine ⟨w, hw, decide_eq_true ?_⟩
    have : p.1 = ⟨s⟩ := of_decide_eq_true e
    rw [this] at he
    injection he with he
    rw [he]
theorem rkw_shape : ∃ L : List ByteArray, (∀ k s, payrollref17_IsKeyword.f k s = payrollref17_IsKeyword.l0 k s L 0) ∧ L.length ≤ 1000 ∧ (∀ p ∈ keywords, p.1 ∈ L.map Str.mk) ∧ ∀ w ∈ L.map Str.mk, w ∈ keywords.map (·.1) :=
  ⟨_, fun _ _ => rfl, by decide +kernel, by decide +kernel, by decide +kernel⟩
theorem rkw_ev (s : ByteArray) : Ev (fun k => payrollref17_IsKeyword.f k s) (kw s) := by
  obtain ⟨L, h1, h2, h3, h4⟩ := rkw_shape
  have h := kw_loop s L h2 L [] rfl
  rw [kw_any s L (by decide +kernel) h3 h4] at h
  exact Ev.congr (fun k => h1 k s) h
def nameS (s : ByteArray) : Bool := decide (0 < s.size ∧ s.size ≤ 24) && (letB (bt s 0) && (allW s s.size 0 && !kw s))
theorem nil_iff (s : ByteArray) : s.toList = ([] : List UInt8) ↔ s.size = 0 := by
  rw [ByteArray.toList_eq]
  rw [← List.length_eq_zero_iff]
  rfl
theorem name_ev (s : ByteArray) : Ev (fun k => token_IsName.f k s) (nameS s) := by
  have hj : Ev (fun k => token_IsName.j0 k s true) false := Ev.step (f := fun _ => some false) (fun k => by simp [token_IsName.j0]) (Ev.now _)
  unfold token_IsName.f
  by_cases h0 : s.toList = ([] : List UInt8)
  · have e : nameS s = false := by rw [nil_iff] at h0; simp [nameS, h0]
    rw [e]
    exact Ev.congr (fun k => if_pos h0) hj
  refine Ev.congr (fun k => if_neg h0) ?_
  rw [nil_iff] at h0
  by_cases h1 : (s.size : Int) > 24
  · have e : nameS s = false := by simp [nameS]; intro _ _; omega
    rw [e]
    exact Ev.congr (fun k => if_pos h1) hj
  refine Ev.congr (fun k => (if_neg h1).trans ((if_pos (by omega)).trans (by rw [letter_eq, Option.bind_some]))) ?_
  have e0 : decide (0 < s.size ∧ s.size ≤ 24) = true := decide_eq_true (by omega)
  unfold nameS
  rw [e0, Bool.true_and]
  cases hl : letB (bt s 0) with
  | false => exact hj
  | true =>
    rw [Bool.true_and]
    exact Ev.step (fun k => by simp only [token_IsName.j0]; rw [if_neg (by simp)]) (tok_loop s (by omega) s.size 0 (by omega) (by omega))
theorem rname_ev (s : ByteArray) : Ev (fun k => payrollref17_IsName.f k s) (nameS s) := by
  unfold payrollref17_IsName.f
  by_cases h0 : s.toList = ([] : List UInt8)
  · have e : nameS s = false := by rw [nil_iff] at h0; simp [nameS, h0]
    rw [e]
    exact Ev.congr (fun k => if_pos h0) (Ev.now _)
  refine Ev.congr (fun k => if_neg h0) ?_
  rw [nil_iff] at h0
  by_cases h1 : (s.size : Int) ≤ 24
  case neg =>
    have e : nameS s = false := by simp [nameS]; intro _ _; omega
    rw [e]
    exact Ev.congr (fun k => if_neg h1) (Ev.now _)
  refine Ev.congr (fun k => if_pos h1) ?_
  have e0 : decide (0 < s.size ∧ s.size ≤ 24) = true := decide_eq_true (by omega)
  unfold nameS
  rw [e0, Bool.true_and]
  cases hl : letB (bt s 0) with
  | false =>
    have hw : Ev (fun k => payrollref17_word.f k s 0) 0 := by
      unfold payrollref17_word.f
      refine Ev.congr (fun k => (if_neg (by omega)).trans ((if_pos (by omega)).trans ((if_pos (by omega)).trans (by rw [lower_eq, hl, Option.bind_some])))) ?_
      exact Ev.step (f := fun _ => some 0) (fun k => by simp [payrollref17_word.j0]) (Ev.now _)
    refine Ev.bind hw ?_
    exact Ev.congr (fun k => if_neg (by omega)) (Ev.now _)
  | true =>
    obtain ⟨r, h2, h3, h4⟩ := word_loop s (by omega) s.size 0 (by omega) (by omega)
    have hw : Ev (fun k => payrollref17_word.f k s 0) r := by
      unfold payrollref17_word.f
      refine Ev.congr (fun k => (if_neg (by omega)).trans ((if_pos (by omega)).trans ((if_pos (by omega)).trans (by rw [lower_eq, hl, Option.bind_some])))) ?_
      exact Ev.step (fun k => by simp only [payrollref17_word.j0]; rw [if_neg (by simp)]) h2
    refine Ev.bind hw ?_
    rw [Bool.true_and]
    by_cases hr : r = (s.size : Int)
    · rw [h4.1 hr, Bool.true_and]
      exact Ev.congr (fun k => if_pos hr) (Ev.bind (rkw_ev s) (Ev.now _))
    · have : allW s s.size 0 = false := by
        cases h : allW s s.size 0 with
        | false => rfl
        | true => exact absurd (h4.2 h) hr
      rw [this, Bool.false_and]
      exact Ev.congr (fun k => if_neg hr) (Ev.now _)
end Go.Proofs.Ytelmnkmpkljboaa.Lib17

/- Lines of payslips: package payslip and its reference answer the same. Plain Lean over the printed functions. -/
namespace Go.Proofs.Ytelmnkmpkljboaa.Lib34
open Go.RowKit Go.Proofs.Ytelmnkmpkljboaa.Q Go.Proofs.YtelmnkmpkljboaaW.PrintWords Go.Proofs.YtelmnkmpkljboaaW.PrintLast Go.Proofs.Ytelmnkmpkljboaa.MapKit Go.Proofs.Ytelmnkmpkljboaa.ListKit Go.Proofs.Ytelmnkmpkljboaa.Lib17
abbrev Ln := S25
def codedB (a : Int) : Bool := !(decide (a = 6) || (decide (a = 9) || decide (a = 10)))
def formS (a : Int) (s : ByteArray) (n : Int) : Bool := decide (1 ≤ a ∧ a ≤ 10) && (tot n && (if codedB a = true then nameS s else decide (s.toList = ([] : List UInt8))))
def formL (x : Ln) : Bool := formS x.f0 x.f1 x.f2
theorem coded_eq (a : Int) : payslip_coded.f a = some (codedB a) := by
  unfold payslip_coded.f codedB
  by_cases h1 : a = 6
  · simp [h1]
  by_cases h2 : a = 9
  · simp [h2]
  by_cases h3 : a = 10 <;> simp [h1, h2, h3]
theorem bare_eq (a : Int) : payrollref32_Bare.f a = some (!codedB a) := by
  unfold payrollref32_Bare.f codedB
  by_cases h1 : a = 6
  · simp [h1]
  by_cases h2 : a = 9
  · simp [h2]
  by_cases h3 : a = 10 <;> simp [h1, h2, h3]
theorem form_ev (a : Int) (s : ByteArray) (n : Int) : Ev (fun k => payslip_form.f k a s n) (formS a s n) := by
  have hf : Ev (fun k => payslip_form.j0 k true a s n) false := Ev.step (f := fun _ => some false) (fun k => by simp [payslip_form.j0]) (Ev.now _)
  unfold payslip_form.f formS
  by_cases h1 : a < 1
  · rw [decide_eq_false (by omega), Bool.false_and]; exact Ev.congr (fun k => if_pos h1) hf
  by_cases h2 : a > 10
  · rw [decide_eq_false (by omega), Bool.false_and]; exact Ev.congr (fun k => (if_neg h1).trans (if_pos h2)) hf
  rw [decide_eq_true (by omega), Bool.true_and]
  refine Ev.congr (fun k => (if_neg h1).trans ((if_neg h2).trans (by rw [tot_eq, Option.bind_some]))) ?_
  cases tot n with
  | false => exact hf
  | true =>
    rw [Bool.true_and]
    refine Ev.step (f := fun k => if codedB a = true then (token_IsName.f k s).bind fun t => some t else some (s.toList == ([] : List UInt8))) (fun k => ?_) ?_
    · simp only [payslip_form.j0]
      rw [if_neg (by simp), coded_eq, Option.bind_some]
    · by_cases h : codedB a = true
      · rw [if_pos h]
        exact Ev.congr (fun k => if_pos h) (Ev.bind (name_ev s) (Ev.now _))
      · rw [if_neg h]
        refine Ev.congr (fun k => if_neg h) ?_
        rw [show (s.toList == ([] : List UInt8)) = decide (s.toList = ([] : List UInt8)) from (Bool.beq_eq_decide_eq _ _)]
        exact Ev.now _
theorem rform_ev (a : Int) (s : ByteArray) (n : Int) : Ev (fun k => payrollref32_Form.f k a s n) (formS a s n) := by
  have hf : Ev (fun k => payrollref32_Form.j0 k true a s n) false := Ev.step (f := fun _ => some false) (fun k => by simp [payrollref32_Form.j0]) (Ev.now _)
  unfold payrollref32_Form.f formS
  by_cases h1 : a < 1
  · rw [decide_eq_false (show ¬ (1 ≤ a ∧ a ≤ 10) by omega), Bool.false_and]; exact Ev.congr (fun k => if_pos h1) hf
  by_cases h2 : a > 10
  · rw [decide_eq_false (show ¬ (1 ≤ a ∧ a ≤ 10) by omega), Bool.false_and]; exact Ev.congr (fun k => (if_neg h1).trans (if_pos h2)) hf
  rw [decide_eq_true (show 1 ≤ a ∧ a ≤ 10 by omega), Bool.true_and]
  refine Ev.congr (fun k => (if_neg h1).trans (if_neg h2)) ?_
  unfold tot
  by_cases h3 : n < -1000000000000
  · rw [decide_eq_false (show ¬ (-1000000000000 ≤ n ∧ n ≤ 1000000000000) by omega), Bool.false_and]; exact Ev.congr (fun k => if_pos h3) hf
  refine Ev.congr (fun k => if_neg h3) ?_
  by_cases h4 : n > 1000000000000
  · rw [decide_eq_false (show ¬ (-1000000000000 ≤ n ∧ n ≤ 1000000000000) by omega), Bool.false_and, decide_eq_true h4]; exact hf
  rw [decide_eq_true (show -1000000000000 ≤ n ∧ n ≤ 1000000000000 by omega), Bool.true_and, decide_eq_false h4]
  refine Ev.step (f := fun k => if codedB a = true then (payrollref17_IsName.f k s).bind fun t => some t else some (s.toList == ([] : List UInt8))) (fun k => ?_) ?_
  · simp only [payrollref32_Form.j0]
    rw [if_neg (by simp), bare_eq, Option.bind_some]
    cases codedB a <;> simp
  · by_cases h : codedB a = true
    · rw [if_pos h]
      exact Ev.congr (fun k => if_pos h) (Ev.bind (rname_ev s) (Ev.now _))
    · rw [if_neg h]
      refine Ev.congr (fun k => if_neg h) ?_
      rw [show (s.toList == ([] : List UInt8)) = decide (s.toList = ([] : List UInt8)) from (Bool.beq_eq_decide_eq _ _)]
      exact Ev.now _
def sumsSpec (l : List Ln) : List (Pr Int Str × Int) × Int :=
  if (l.length : Int) > 65536 then ([], 3) else if l.all formL = true then (if (sumsL l).all (fun p => tot p.2) = true then (sumsL l, 0) else ([], 4)) else ([], 1)
def mergeSpec (l : List Ln) : List Ln × Int := if (sumsSpec l).2 = 0 then (linesL (sumsSpec l).1, 0) else ([], (sumsSpec l).2)
/-! ### the reference -/
def toLs (m : List (Pr Int Str × Int)) : List Ln := m.map toL
end Go.Proofs.Ytelmnkmpkljboaa.Lib34

/- Books: package book and its reference answer the same. Plain Lean over the printed functions. -/
namespace Go.Proofs.Ytelmnkmpkljboaa.Lib35
open Go.RowKit Go.Proofs.Ytelmnkmpkljboaa.Q Go.Proofs.YtelmnkmpkljboaaW.PrintWords Go.Proofs.YtelmnkmpkljboaaW.PrintLast Go.Proofs.Ytelmnkmpkljboaa.MapKit Go.Proofs.Ytelmnkmpkljboaa.ListKit Go.Proofs.Ytelmnkmpkljboaa.Lib17 Go.Proofs.Ytelmnkmpkljboaa.Lib34
abbrev Ps := S27
theorem rdP_mid (pre : List Ps) (x : Ps) (suf : List Ps) : rd_T27 (pre ++ x :: suf) (pre.length : Int) = x := by
  simp [rd_T27, List.getD_eq_getElem?_getD]
theorem lenP (pre : List Ps) (x : Ps) : ((pre ++ [x]).length : Int) = (pre.length : Int) + 1 := by simp
theorem rdP_last (pre : List Ps) (q : Ps) (suf : List Ps) : rd_T27 (pre ++ [q] ++ suf) (((pre ++ [q]).length : Int) - 1) = q := by
  rw [lenP, show (pre.length : Int) + 1 - 1 = (pre.length : Int) by omega, List.append_assoc, List.singleton_append, rdP_mid]
def validP (p : Ps) : Bool := decide (1 ≤ p.f0 ∧ p.f0 ≤ 256 ∧ 1 ≤ p.f1 ∧ p.f1 ≤ 2147483647 ∧ 0 ≤ p.f2 ∧ p.f2 ≤ 84005) && (formL p.f3 && decide (p.f3.f2 ≠ 0))
theorem Form_ev (a : Int) (s : ByteArray) (n : Int) : Ev (fun k => payslip_Form.f k a s n) (formS a s n && decide (n ≠ 0)) := by
  unfold payslip_Form.f
  refine Ev.bind (form_ev a s n) ?_
  cases formS a s n with
  | true =>
    refine Ev.congr (fun k => if_pos rfl) ?_
    rw [Bool.true_and, show (n != 0) = decide (n ≠ 0) by by_cases h : n = 0 <;> simp [h]]
    exact Ev.now _
  | false => exact Ev.congr (fun k => if_neg (by simp)) (Ev.now _)
theorem rForm_ev (a : Int) (s : ByteArray) (n : Int) : Ev (fun k => payrollref34_Form.f k a s n) (formS a s n && decide (n ≠ 0)) := by
  unfold payrollref34_Form.f
  by_cases h : n = 0
  · rw [decide_eq_false (by omega), Bool.and_false]; exact Ev.congr (fun k => if_pos h) (Ev.now _)
  · rw [decide_eq_true h, Bool.and_true]; exact Ev.congr (fun k => if_neg h) (Ev.bind (rform_ev a s n) (Ev.now _))
theorem valid_ev (p : Ps) : Ev (fun k => book_Valid.f k p.f0 p.f1 p.f2 p.f3.f0 p.f3.f1 p.f3.f2) (validP p) := by
  unfold book_Valid.f validP
  by_cases h : 1 ≤ p.f0 ∧ p.f0 ≤ 256 ∧ 1 ≤ p.f1 ∧ p.f1 ≤ 2147483647 ∧ 0 ≤ p.f2 ∧ p.f2 ≤ 84005
  · rw [decide_eq_true h, Bool.true_and]
    exact Ev.congr (fun k => (if_pos (by omega)).trans ((if_pos (by omega)).trans ((if_pos (by omega)).trans ((if_pos (by omega)).trans ((if_pos (by omega)).trans (if_pos (by omega))))))) (Ev.bind (Form_ev _ _ _) (Ev.now _))
  · rw [decide_eq_false h, Bool.false_and]
    refine Ev.congr (f := fun _ => some false) (fun k => ?_) (Ev.now _)
    repeat' split
    all_goals first | rfl | (exfalso; omega)
theorem rvalid_ev (p : Ps) : Ev (fun k => payrollref35_Valid.f k p.f0 p.f1 p.f2 p.f3.f0 p.f3.f1 p.f3.f2) (validP p) := by
  unfold payrollref35_Valid.f validP
  by_cases h : 1 ≤ p.f0 ∧ p.f0 ≤ 256 ∧ 1 ≤ p.f1 ∧ p.f1 ≤ 2147483647 ∧ 0 ≤ p.f2 ∧ p.f2 ≤ 84005
  · rw [decide_eq_true h, Bool.true_and]
    exact Ev.congr (fun k => (if_pos (by omega)).trans ((if_pos (by omega)).trans ((if_pos (by omega)).trans ((if_pos (by omega)).trans ((if_pos (by omega)).trans (if_pos (by omega))))))) (Ev.bind (rForm_ev _ _ _) (Ev.now _))
  · rw [decide_eq_false h, Bool.false_and]
    refine Ev.congr (f := fun _ => some false) (fun k => ?_) (Ev.now _)
    repeat' split
    all_goals first | rfl | (exfalso; omega)
def okAfter (prev : Option Int) (n : Int) : Bool := match prev with | none => true | some q => decide (q ≤ n)
def runsUp : Option Int → List Ps → Bool
  | _, [] => true
  | prev, p :: r => okAfter prev p.f0 && runsUp (some p.f0) r
def lastRun (l : List Ps) : Option Int := l.getLast?.map (·.f0)
theorem lastRun_snoc (l : List Ps) (p : Ps) : lastRun (l ++ [p]) = some p.f0 := by simp [lastRun]
def bookB (l : List Ps) : Bool := decide (l.length ≤ 65536) && (l.all validP && runsUp none l)
theorem book_loop (l : List Ps) (hlen : l.length ≤ 65536) : ∀ (suf pre : List Ps), l = pre ++ suf → Ev (fun k => book_Book.l0 k l l (l.length : Int) (pre.length : Int)) (suf.all validP && runsUp (lastRun pre) suf) := by
  intro suf
  induction suf with
  | nil =>
    intro pre h
    refine Ev.step (f := fun _ => some true) (fun k => ?_) (Ev.now _)
    simp only [book_Book.l0]
    rw [if_neg (by rw [h]; simp)]
  | cons x suf ih =>
    intro pre h
    have h2 := ih (pre ++ [x]) (by rw [h]; simp)
    rw [lastRun_snoc] at h2
    have hln : l.length = pre.length + suf.length + 1 := by rw [h]; simp; omega
    have hrd : rd_T27 l (pre.length : Int) = x := by rw [h]; exact rdP_mid pre x suf
    refine Ev.step (f := fun k => (book_Valid.f k x.f0 x.f1 x.f2 x.f3.f0 x.f3.f1 x.f3.f2).bind fun t => if t = true then (if okAfter (lastRun pre) x.f0 = true then book_Book.l0 k l l (l.length : Int) ((pre ++ [x]).length : Int) else some false) else some false) (fun k => ?_) ?_
    · simp only [book_Book.l0]
      rw [if_pos (by omega), if_pos (by omega), if_pos (by omega), hrd, wrapid (x := (pre.length : Int) + 1) (by omega) (by omega), lenP]
      congr 1
      funext t
      by_cases ht : t = true
      · rw [if_pos ht, if_pos ht]
        rcases List.eq_nil_or_concat pre with h0 | ⟨init, q, h0⟩
        · subst h0
          rw [if_neg (by simp)]
          rfl
        · rw [List.concat_eq_append] at h0
          have hp : (pre.length : Int) = (init.length : Int) + 1 := by rw [h0]; simp
          have hrq : rd_T27 l ((pre.length : Int) - 1) = q := by rw [h, h0]; exact rdP_last init q (x :: suf)
          rw [if_pos (by omega), wrapid (x := (pre.length : Int) - 1) (by omega) (by omega), if_pos (by omega), if_pos (by omega), hrq, h0, lastRun_snoc]
          unfold okAfter
          by_cases c : q.f0 > x.f0
          · rw [if_pos c, if_neg (by simp; omega)]
          · rw [if_neg c, if_pos (by simp; omega)]
      · rw [if_neg ht, if_neg ht]
    · refine Ev.bind (valid_ev x) ?_
      rw [List.all_cons]
      show Ev _ ((validP x && suf.all validP) && (okAfter (lastRun pre) x.f0 && runsUp (some x.f0) suf))
      cases validP x with
      | false => exact Ev.congr (fun k => if_neg (by simp)) (Ev.now _)
      | true =>
        refine Ev.congr (fun k => if_pos rfl) ?_
        rw [Bool.true_and]
        cases okAfter (lastRun pre) x.f0 with
        | false => rw [Bool.false_and, Bool.and_false]; exact Ev.congr (fun k => if_neg (by simp)) (Ev.now _)
        | true => rw [Bool.true_and]; exact Ev.congr (fun k => if_pos rfl) h2
theorem book_ev (l : List Ps) : Ev (fun k => book_Book.f k l) (bookB l) := by
  unfold book_Book.f bookB
  by_cases h : (l.length : Int) > 65536
  · rw [decide_eq_false (by omega), Bool.false_and]; exact Ev.congr (fun k => if_pos h) (Ev.now _)
  · rw [decide_eq_true (by omega), Bool.true_and]; exact Ev.congr (fun k => if_neg h) (book_loop l (by omega) l [] rfl)
theorem rbook_loop (l : List Ps) (hlen : l.length ≤ 65536) : ∀ (suf pre : List Ps), l = pre ++ suf → Ev (fun k => payrollref35_Book.l0 k l (pre.length : Int)) (suf.all validP && runsUp (lastRun pre) suf) := by
  intro suf
  induction suf with
  | nil =>
    intro pre h
    refine Ev.step (f := fun _ => some true) (fun k => ?_) (Ev.now _)
    simp only [payrollref35_Book.l0]
    rw [if_neg (by rw [h]; simp)]
  | cons x suf ih =>
    intro pre h
    have h2 := ih (pre ++ [x]) (by rw [h]; simp)
    rw [lastRun_snoc] at h2
    have hln : l.length = pre.length + suf.length + 1 := by rw [h]; simp; omega
    have hrd : rd_T27 l (pre.length : Int) = x := by rw [h]; exact rdP_mid pre x suf
    refine Ev.step (f := fun k => (payrollref35_Valid.f k x.f0 x.f1 x.f2 x.f3.f0 x.f3.f1 x.f3.f2).bind fun t => if t = true then (if okAfter (lastRun pre) x.f0 = true then payrollref35_Book.l0 k l ((pre ++ [x]).length : Int) else some false) else some false) (fun k => ?_) ?_
    · simp only [payrollref35_Book.l0]
      rw [if_pos (by omega), if_pos (by omega), hrd, wrapid (x := (pre.length : Int) + 1) (by omega) (by omega), lenP]
      congr 1
      funext t
      by_cases ht : t = true
      · rw [if_pos ht, if_pos ht]
        rcases List.eq_nil_or_concat pre with h0 | ⟨init, q, h0⟩
        · subst h0
          rw [if_neg (by simp)]
          rfl
        · rw [List.concat_eq_append] at h0
          have hp : (pre.length : Int) = (init.length : Int) + 1 := by rw [h0]; simp
          have hrq : rd_T27 l ((pre.length : Int) - 1) = q := by rw [h, h0]; exact rdP_last init q (x :: suf)
          rw [if_pos (by omega), wrapid (x := (pre.length : Int) - 1) (by omega) (by omega), if_pos (by omega), if_pos (by omega), hrq, h0, lastRun_snoc]
          unfold okAfter
          by_cases c : q.f0 > x.f0
          · rw [if_pos c, if_neg (by simp; omega)]
          · rw [if_neg c, if_pos (by simp; omega)]
      · rw [if_neg ht, if_neg ht]
    · refine Ev.bind (rvalid_ev x) ?_
      rw [List.all_cons]
      show Ev _ ((validP x && suf.all validP) && (okAfter (lastRun pre) x.f0 && runsUp (some x.f0) suf))
      cases validP x with
      | false => exact Ev.congr (fun k => if_neg (by simp)) (Ev.now _)
      | true =>
        refine Ev.congr (fun k => if_pos rfl) ?_
        rw [Bool.true_and]
        cases okAfter (lastRun pre) x.f0 with
        | false => rw [Bool.false_and, Bool.and_false]; exact Ev.congr (fun k => if_neg (by simp)) (Ev.now _)
        | true => rw [Bool.true_and]; exact Ev.congr (fun k => if_pos rfl) h2
theorem rbook_ev (l : List Ps) : Ev (fun k => payrollref35_Book.f k l) (bookB l) := by
  unfold payrollref35_Book.f bookB
  by_cases h : (l.length : Int) > 65536
  · rw [decide_eq_false (by omega), Bool.false_and]; exact Ev.congr (fun k => if_pos h) (Ev.now _)
  · rw [decide_eq_true (by omega), Bool.true_and]; exact Ev.congr (fun k => if_neg h) (rbook_loop l (by omega) l [] rfl)
/-! ### Add -/
def addSpec (l more : List Ps) : List Ps × Int :=
  if bookB l = true then (if more.all validP = true then (if l.length + more.length > 65536 then ([], 18) else if runsUp none (l ++ more) = true then (l ++ more, 0) else ([], 15)) else ([], 1)) else ([], 1)
theorem book_parts {l : List Ps} (h : bookB l = true) : l.length ≤ 65536 ∧ l.all validP = true ∧ runsUp none l = true := by
  simp only [bookB, Bool.and_eq_true, decide_eq_true_eq] at h
  exact ⟨h.1, h.2.1, h.2.2⟩
theorem add_l1 (l : List Ps) (hlen : l.length ≤ 65536) : ∀ (suf pre : List Ps), l = pre ++ suf → 0 < pre.length → Ev (fun k => book_Add.l1 k l (pre.length : Int)) (if runsUp (lastRun pre) suf = true then (l, 0) else ([], 15)) := by
  intro suf
  induction suf with
  | nil =>
    intro pre h _
    refine Ev.step (f := fun _ => some (l, 0)) (fun k => ?_) (Ev.now _)
    simp only [book_Add.l1]
    rw [if_neg (by rw [h]; simp)]
  | cons x suf ih =>
    intro pre h hpos
    have h2 := ih (pre ++ [x]) (by rw [h]; simp) (by simp)
    rw [lastRun_snoc] at h2
    have hln : l.length = pre.length + suf.length + 1 := by rw [h]; simp; omega
    have hrd : rd_T27 l (pre.length : Int) = x := by rw [h]; exact rdP_mid pre x suf
    refine Ev.step (f := fun k => if okAfter (lastRun pre) x.f0 = true then book_Add.l1 k l ((pre ++ [x]).length : Int) else some ([], 15)) (fun k => ?_) ?_
    · simp only [book_Add.l1]
      rcases List.eq_nil_or_concat pre with h0 | ⟨init, q, h0⟩
      · subst h0; simp at hpos
      · rw [List.concat_eq_append] at h0
        have hp : (pre.length : Int) = (init.length : Int) + 1 := by rw [h0]; simp
        have hrq : rd_T27 l ((pre.length : Int) - 1) = q := by rw [h, h0]; exact rdP_last init q (x :: suf)
        rw [if_pos (by omega), wrapid (x := (pre.length : Int) - 1) (by omega) (by omega), if_pos (by omega), if_pos (by omega), if_pos (by omega), hrq, hrd, wrapid (x := (pre.length : Int) + 1) (by omega) (by omega), lenP, h0, lastRun_snoc]
        unfold okAfter
        by_cases c : q.f0 > x.f0
        · rw [if_pos c, if_neg (by simp; omega)]
        · rw [if_neg c, if_pos (by simp; omega)]
    · show Ev _ (if (okAfter (lastRun pre) x.f0 && runsUp (some x.f0) suf) = true then (l, 0) else ([], 15))
      cases okAfter (lastRun pre) x.f0 with
      | false => rw [Bool.false_and]; exact Ev.congr (fun k => if_neg (by simp)) (Ev.now _)
      | true => rw [Bool.true_and]; exact Ev.congr (fun k => if_pos rfl) h2
theorem add_l0 (l more : List Ps) (hl : l.length ≤ 65536) (hm : more.length ≤ 1000000) : ∀ (suf pre : List Ps), more = pre ++ suf → Ev (fun k => book_Add.l0 k l more more (more.length : Int) (pre.length : Int)) (if suf.all validP = true then (if l.length + more.length > 65536 then ([], 18) else if runsUp none (l ++ more) = true then (l ++ more, 0) else ([], 15)) else ([], 1)) := by
  intro suf
  induction suf with
  | nil =>
    intro pre h
    rw [List.all_nil, if_pos rfl]
    have hu : ∀ k, book_Add.l0 (k + 1) l more more (more.length : Int) (pre.length : Int) = if l.length + more.length > 65536 then some ([], 18) else book_Add.l1 k (l ++ more) 1 := fun k => by
      simp only [book_Add.l0]
      rw [if_neg (by rw [h]; simp), wrapid (x := (l.length : Int) + (more.length : Int)) (by omega) (by omega)]
      by_cases c : l.length + more.length > 65536
      · rw [if_pos (by omega), if_pos c]
      · rw [if_neg (by omega), if_neg c, if_pos (by omega), if_pos (by omega), Option.bind_some, if_pos (by simp; omega), Option.bind_some, List.nil_append, if_pos (by omega)]
    refine Ev.step hu ?_
    by_cases c : l.length + more.length > 65536
    · rw [if_pos c]; exact Ev.congr (fun k => if_pos c) (Ev.now _)
    · rw [if_neg c]
      refine Ev.congr (fun k => if_neg c) ?_
      have hlen : (l ++ more).length ≤ 65536 := by rw [List.length_append]; omega
      cases hll : l ++ more with
      | nil =>
        refine Ev.step (f := fun _ => some (([] : List Ps), 0)) (fun k => ?_) (Ev.now _)
        simp only [book_Add.l1]
        rw [if_neg (by simp)]
      | cons p r =>
        have := add_l1 (p :: r) (hll ▸ hlen) r [p] rfl (by simp)
        show Ev _ (if (okAfter none p.f0 && runsUp (some p.f0) r) = true then (p :: r, 0) else ([], 15))
        rw [show okAfter none p.f0 = true from rfl, Bool.true_and]
        exact this
  | cons x suf ih =>
    intro pre h
    have h2 := ih (pre ++ [x]) (by rw [h]; simp)
    have hln : more.length = pre.length + suf.length + 1 := by rw [h]; simp; omega
    have hrd : rd_T27 more (pre.length : Int) = x := by rw [h]; exact rdP_mid pre x suf
    refine Ev.step (f := fun k => (book_Valid.f k x.f0 x.f1 x.f2 x.f3.f0 x.f3.f1 x.f3.f2).bind fun t => if t = true then book_Add.l0 k l more more (more.length : Int) ((pre ++ [x]).length : Int) else some ([], 1)) (fun k => ?_) ?_
    · simp only [book_Add.l0]
      rw [if_pos (by omega), if_pos (by omega), if_pos (by omega), hrd, wrapid (x := (pre.length : Int) + 1) (by omega) (by omega), lenP]
    · refine Ev.bind (valid_ev x) ?_
      rw [List.all_cons]
      cases validP x with
      | false => rw [Bool.false_and]; exact Ev.congr (fun k => if_neg (by simp)) (Ev.now _)
      | true => rw [Bool.true_and]; exact Ev.congr (fun k => if_pos rfl) h2
theorem add_ev (l more : List Ps) (hm : more.length ≤ 1000000) : Ev (fun k => book_Add.f k l more) (addSpec l more) := by
  unfold book_Add.f addSpec
  refine Ev.bind (book_ev l) ?_
  by_cases h : bookB l = true
  · rw [if_pos h]
    exact Ev.congr (fun k => if_pos h) (add_l0 l more (book_parts h).1 hm more [] rfl)
  · rw [if_neg h]; exact Ev.congr (fun k => if_neg h) (Ev.now _)
theorem radd_l0 (l more : List Ps) (hv : l.all validP = true) (hl : l.length ≤ 65536) (hm : more.length ≤ 1000000) (hall : more.all validP = true → True) : ∀ (suf pre : List Ps), more = pre ++ suf → pre.all validP = true → Ev (fun k => payrollref35_Add.l0 k l more (pre.length : Int)) (if suf.all validP = true then (if l.length + more.length > 65536 then ([], 18) else if runsUp none (l ++ more) = true then (l ++ more, 0) else ([], 15)) else ([], 1)) := by
  intro suf
  induction suf with
  | nil =>
    intro pre h hp
    rw [List.append_nil] at h
    subst h
    rw [List.all_nil, if_pos rfl]
    have hu : ∀ k, payrollref35_Add.l0 (k + 1) l more (more.length : Int) = if l.length + more.length > 65536 then some ([], 18) else (payrollref35_Book.f k (l ++ more)).bind fun t => if t = true then some (l ++ more, 0) else some ([], 15) := fun k => by
      simp only [payrollref35_Add.l0]
      rw [if_neg (by simp), wrapid (x := (l.length : Int) + (more.length : Int)) (by omega) (by omega)]
      by_cases c : l.length + more.length > 65536
      · rw [if_pos (by omega), if_pos c]
      · rw [if_neg (by omega), if_neg c, Option.bind_some, if_pos (by simp; omega), Option.bind_some, List.nil_append, if_pos (by omega), Option.bind_some]
    refine Ev.step hu ?_
    by_cases c : l.length + more.length > 65536
    · rw [if_pos c]; exact Ev.congr (fun k => if_pos c) (Ev.now _)
    · rw [if_neg c]
      refine Ev.congr (fun k => if_neg c) (Ev.bind (rbook_ev (l ++ more)) ?_)
      have hb : bookB (l ++ more) = runsUp none (l ++ more) := by
        unfold bookB
        rw [decide_eq_true (by rw [List.length_append]; omega), List.all_append, hv, hp]
        rfl
      rw [hb]
      by_cases c2 : runsUp none (l ++ more) = true
      · rw [if_pos c2, if_pos c2]; exact Ev.now _
      · rw [if_neg c2, if_neg c2]; exact Ev.now _
  | cons x suf ih =>
    intro pre h hp
    have hln : more.length = pre.length + suf.length + 1 := by rw [h]; simp; omega
    have hrd : rd_T27 more (pre.length : Int) = x := by rw [h]; exact rdP_mid pre x suf
    refine Ev.step (f := fun k => (payrollref35_Valid.f k x.f0 x.f1 x.f2 x.f3.f0 x.f3.f1 x.f3.f2).bind fun t => if t = true then payrollref35_Add.l0 k l more ((pre ++ [x]).length : Int) else some ([], 1)) (fun k => ?_) ?_
    · simp only [payrollref35_Add.l0]
      rw [if_pos (by omega), if_pos (by omega), hrd, wrapid (x := (pre.length : Int) + 1) (by omega) (by omega), lenP]
    · refine Ev.bind (rvalid_ev x) ?_
      rw [List.all_cons]
      cases hx : validP x with
      | false => rw [Bool.false_and]; exact Ev.congr (fun k => if_neg (by simp)) (Ev.now _)
      | true => rw [Bool.true_and]; exact Ev.congr (fun k => if_pos rfl) (ih (pre ++ [x]) (by rw [h]; simp) (by rw [List.all_append, hp]; simp [hx]))
theorem radd_ev (l more : List Ps) (hm : more.length ≤ 1000000) : Ev (fun k => payrollref35_Add.f k l more) (addSpec l more) := by
  unfold payrollref35_Add.f addSpec
  refine Ev.bind (rbook_ev l) ?_
  by_cases h : bookB l = true
  · rw [if_pos h]
    exact Ev.congr (fun k => if_pos h) (radd_l0 l more (book_parts h).2.1 (book_parts h).1 hm (fun _ => trivial) more [] rfl rfl)
  · rw [if_neg h]; exact Ev.congr (fun k => if_neg h) (Ev.now _)
theorem same35_loop : ∀ (suf pre : List Ps), pre.length + suf.length ≤ 1000000 → Ev (fun k => payrollref35_Same.l0 k (pre ++ suf) (pre ++ suf) (pre.length : Int)) true := by
  intro suf
  induction suf with
  | nil =>
    intro pre _
    refine Ev.step (f := fun _ => some true) (fun k => ?_) (Ev.now _)
    simp only [payrollref35_Same.l0]
    rw [if_neg (by simp)]
  | cons x suf ih =>
    intro pre hl
    have h := ih (pre ++ [x]) (by simp at hl ⊢; omega)
    rw [List.append_assoc, List.singleton_append] at h
    refine Ev.step (fun k => ?_) h
    simp only [payrollref35_Same.l0]
    simp only [List.length_cons] at hl
    rw [if_pos (by simp; omega), if_pos (by omega), if_pos (by simp; omega), if_neg (by simp), wrapid (by omega) (by omega), lenP]
theorem same35_self (l : List Ps) (hl : l.length ≤ 1000000) : Ev (fun k => payrollref35_Same.f k l l) true := by
  unfold payrollref35_Same.f
  exact Ev.congr (fun k => if_pos rfl) (same35_loop l [] (by simpa using hl))
end Go.Proofs.Ytelmnkmpkljboaa.Lib35

/- Books: undo, net, as-of, result and period of package book and of its reference. Plain Lean over the printed functions. -/
namespace Go.Proofs.Ytelmnkmpkljboaa.Lib35
open Go.RowKit Go.Proofs.Ytelmnkmpkljboaa.Q Go.Proofs.YtelmnkmpkljboaaW.PrintWords Go.Proofs.YtelmnkmpkljboaaW.PrintLast Go.Proofs.Ytelmnkmpkljboaa.MapKit Go.Proofs.Ytelmnkmpkljboaa.ListKit Go.Proofs.Ytelmnkmpkljboaa.Lib17 Go.Proofs.Ytelmnkmpkljboaa.Lib34
def undoL (a b : Int) (l : List Ps) : List Ps := (l.filter (fun p => p.f0 == a)).map (fun p => ⟨b, p.f1, p.f2, ⟨p.f3.f0, p.f3.f1, wrap64 (-p.f3.f2)⟩⟩)
def undoEnd (l : List Ps) (b : Int) (u : List Ps) : List Ps × Int := if u.length = 0 then ([], 16) else if (rd_T27 l ((l.length : Int) - 1)).f0 ≥ b then ([], 15) else (u, 0)
def undoSpec (l : List Ps) (a b : Int) : List Ps × Int := if bookB l = true then (if 1 ≤ b ∧ b ≤ 256 then undoEnd l b (undoL a b l) else ([], 1)) else ([], 1)
def netL (a : Int) (n : Int) : List Ps → Int
  | [] => n
  | p :: r => netL a (if p.f1 = a ∧ p.f3.f0 = 9 then wrap64 (n + p.f3.f2) else n) r
def netSpec (l : List Ps) (a : Int) : Int := if bookB l = true then netL a 0 l else 0
def asofL (a : Int) (l : List Ps) : List Ps := l.filter (fun p => decide (p.f0 ≤ a))
def asofSpec (l : List Ps) (a : Int) : List Ps := if bookB l = true then asofL a l else []
def resultSpec (l : List Ps) (a b : Int) : List Ln := if bookB l = true then (mergeSpec (linesResult a b l)).1 else []

theorem undo_loop (l : List Ps) (a b : Int) (hlen : l.length ≤ 65536) : ∀ (suf pre acc : List Ps), l = pre ++ suf → acc.length ≤ pre.length → Ev (fun k => book_Undo.l0 k l a b acc l (l.length : Int) (pre.length : Int)) (undoEnd l b (acc ++ undoL a b suf)) := by
  intro suf
  induction suf with
  | nil =>
    intro pre acc h hacc
    have hn : l.length = pre.length := by rw [h]; simp
    refine Ev.step (f := fun _ => some (undoEnd l b acc)) (fun k => ?_) (by rw [show undoL a b [] = [] from rfl, List.append_nil]; exact Ev.now _)
    simp only [book_Undo.l0]
    rw [if_neg (by omega)]
    unfold undoEnd
    by_cases c : acc.length = 0
    · rw [if_pos (by omega), if_pos c]
    · rw [if_neg (by omega), if_neg c, wrapid (x := (l.length : Int) - 1) (by omega) (by omega), if_pos (by omega), if_pos (by omega)]
      by_cases c2 : (rd_T27 l ((l.length : Int) - 1)).f0 ≥ b
      · rw [if_pos c2, if_pos c2]
      · rw [if_neg c2, if_neg c2]
  | cons x suf ih =>
    intro pre acc h hacc
    have hln : l.length = pre.length + suf.length + 1 := by rw [h]; simp; omega
    have hrd : rd_T27 l (pre.length : Int) = x := by rw [h]; exact rdP_mid pre x suf
    by_cases c : x.f0 = a
    · have h2 := ih (pre ++ [x]) (acc ++ [⟨b, x.f1, x.f2, ⟨x.f3.f0, x.f3.f1, wrap64 (-x.f3.f2)⟩⟩]) (by rw [h]; simp) (by simp; omega)
      have e : undoL a b (x :: suf) = ⟨b, x.f1, x.f2, ⟨x.f3.f0, x.f3.f1, wrap64 (-x.f3.f2)⟩⟩ :: undoL a b suf := by simp [undoL, c]
      rw [List.append_assoc, List.singleton_append, ← e] at h2
      refine Ev.step (fun k => ?_) h2
      simp only [book_Undo.l0]
      rw [if_pos (by omega), if_pos (by omega), if_pos (by omega), hrd, if_pos c, if_pos (by omega), wrapid (x := (pre.length : Int) + 1) (by omega) (by omega), lenP]
    · have h2 := ih (pre ++ [x]) acc (by rw [h]; simp) (by simp; omega)
      have e : undoL a b (x :: suf) = undoL a b suf := by simp [undoL, c]
      rw [← e] at h2
      refine Ev.step (fun k => ?_) h2
      simp only [book_Undo.l0]
      rw [if_pos (by omega), if_pos (by omega), if_pos (by omega), hrd, if_neg c, wrapid (x := (pre.length : Int) + 1) (by omega) (by omega), lenP]
theorem undo_ev (l : List Ps) (a b : Int) : Ev (fun k => book_Undo.f k l a b) (undoSpec l a b) := by
  unfold book_Undo.f undoSpec
  refine Ev.bind (book_ev l) ?_
  by_cases h : bookB l = true
  · rw [if_pos h]
    refine Ev.congr (fun k => if_pos h) ?_
    have hbad : Ev (fun k => book_Undo.j0 k l a b true) ([], 1) := Ev.step (f := fun _ => some ([], 1)) (fun k => by simp [book_Undo.j0]) (Ev.now _)
    by_cases c1 : b < 1
    · rw [if_neg (show ¬ (1 ≤ b ∧ b ≤ 256) by omega)]
      exact Ev.congr (fun k => if_pos c1) hbad
    · by_cases c2 : b > 256
      · rw [if_neg (show ¬ (1 ≤ b ∧ b ≤ 256) by omega)]
        exact Ev.congr (fun k => (if_neg c1).trans (by rw [decide_eq_true c2])) hbad
      · rw [if_pos (show 1 ≤ b ∧ b ≤ 256 by omega)]
        refine Ev.congr (f := fun k => book_Undo.j0 k l a b false) (fun k => (if_neg c1).trans (by rw [decide_eq_false c2])) ?_
        have := undo_loop l a b (book_parts h).1 l [] [] rfl (Nat.le_refl _)
        exact Ev.step (fun k => by simp [book_Undo.j0]) this
  · rw [if_neg h]
    exact Ev.congr (fun k => if_neg h) (Ev.step (f := fun _ => some ([], 1)) (fun k => by simp [book_Undo.j0]) (Ev.now _))

theorem rundo_loop (l : List Ps) (a b : Int) (hlen : l.length ≤ 65536) : ∀ (suf pre acc : List Ps), l = pre ++ suf → acc.length ≤ pre.length → Ev (fun k => payrollref35_Undo.l0 k l a b acc (pre.length : Int)) (undoEnd l b (acc ++ undoL a b suf)) := by
  intro suf
  induction suf with
  | nil =>
    intro pre acc h hacc
    have hn : l.length = pre.length := by rw [h]; simp
    refine Ev.step (f := fun _ => some (undoEnd l b acc)) (fun k => ?_) (by rw [show undoL a b [] = [] from rfl, List.append_nil]; exact Ev.now _)
    simp only [payrollref35_Undo.l0]
    rw [if_neg (by omega)]
    unfold undoEnd
    by_cases c : acc.length = 0
    · rw [if_pos (by omega), if_pos c]
    · rw [if_neg (by omega), if_neg c, wrapid (x := (l.length : Int) - 1) (by omega) (by omega), if_pos (by omega), if_pos (by omega)]
      by_cases c2 : (rd_T27 l ((l.length : Int) - 1)).f0 ≥ b
      · rw [if_pos c2, if_pos c2]
      · rw [if_neg c2, if_neg c2]
  | cons x suf ih =>
    intro pre acc h hacc
    have hln : l.length = pre.length + suf.length + 1 := by rw [h]; simp; omega
    have hrd : rd_T27 l (pre.length : Int) = x := by rw [h]; exact rdP_mid pre x suf
    by_cases c : x.f0 = a
    · have h2 := ih (pre ++ [x]) (acc ++ [⟨b, x.f1, x.f2, ⟨x.f3.f0, x.f3.f1, wrap64 (-x.f3.f2)⟩⟩]) (by rw [h]; simp) (by simp; omega)
      have e : undoL a b (x :: suf) = ⟨b, x.f1, x.f2, ⟨x.f3.f0, x.f3.f1, wrap64 (-x.f3.f2)⟩⟩ :: undoL a b suf := by simp [undoL, c]
      rw [List.append_assoc, List.singleton_append, ← e] at h2
      refine Ev.step (fun k => ?_) h2
      simp only [payrollref35_Undo.l0]
      rw [if_pos (by omega), if_pos (by omega), hrd, if_pos c, if_pos (by omega), wrapid (x := (pre.length : Int) + 1) (by omega) (by omega), lenP]
    · have h2 := ih (pre ++ [x]) acc (by rw [h]; simp) (by simp; omega)
      have e : undoL a b (x :: suf) = undoL a b suf := by simp [undoL, c]
      rw [← e] at h2
      refine Ev.step (fun k => ?_) h2
      simp only [payrollref35_Undo.l0]
      rw [if_pos (by omega), if_pos (by omega), hrd, if_neg c, wrapid (x := (pre.length : Int) + 1) (by omega) (by omega), lenP]
theorem rundo_ev (l : List Ps) (a b : Int) : Ev (fun k => payrollref35_Undo.f k l a b) (undoSpec l a b) := by
  unfold payrollref35_Undo.f undoSpec
  refine Ev.bind (rbook_ev l) ?_
  by_cases h : bookB l = true
  · rw [if_pos h]
    refine Ev.congr (fun k => if_pos h) ?_
    have hbad : Ev (fun k => payrollref35_Undo.j0 k l a b true) ([], 1) := Ev.step (f := fun _ => some ([], 1)) (fun k => by simp [payrollref35_Undo.j0]) (Ev.now _)
    by_cases c1 : b < 1
    · rw [if_neg (show ¬ (1 ≤ b ∧ b ≤ 256) by omega)]
      exact Ev.congr (fun k => if_pos c1) hbad
    · by_cases c2 : b > 256
      · rw [if_neg (show ¬ (1 ≤ b ∧ b ≤ 256) by omega)]
        exact Ev.congr (fun k => (if_neg c1).trans (by rw [decide_eq_true c2])) hbad
      · rw [if_pos (show 1 ≤ b ∧ b ≤ 256 by omega)]
        refine Ev.congr (f := fun k => payrollref35_Undo.j0 k l a b false) (fun k => (if_neg c1).trans (by rw [decide_eq_false c2])) ?_
        have := rundo_loop l a b (book_parts h).1 l [] [] rfl (Nat.le_refl _)
        exact Ev.step (fun k => by simp [payrollref35_Undo.j0]) this
  · rw [if_neg h]
    exact Ev.congr (fun k => if_neg h) (Ev.step (f := fun _ => some ([], 1)) (fun k => by simp [payrollref35_Undo.j0]) (Ev.now _))

theorem net_loop (l : List Ps) (a : Int) (hlen : l.length ≤ 65536) : ∀ (suf pre : List Ps) (n : Int), l = pre ++ suf → Ev (fun k => book_Net.l0 k a n l (l.length : Int) (pre.length : Int)) (netL a n suf) := by
  intro suf
  induction suf with
  | nil =>
    intro pre n h
    refine Ev.step (f := fun _ => some n) (fun k => ?_) (Ev.now _)
    simp only [book_Net.l0]
    rw [if_neg (by rw [h]; simp)]
  | cons x suf ih =>
    intro pre n h
    have hln : l.length = pre.length + suf.length + 1 := by rw [h]; simp; omega
    have hrd : rd_T27 l (pre.length : Int) = x := by rw [h]; exact rdP_mid pre x suf
    refine Ev.step (fun k => ?_) (ih (pre ++ [x]) (if x.f1 = a ∧ x.f3.f0 = 9 then wrap64 (n + x.f3.f2) else n) (by rw [h]; simp))
    simp only [book_Net.l0]
    rw [if_pos (by omega), if_pos (by omega), if_pos (by omega), hrd, wrapid (x := (pre.length : Int) + 1) (by omega) (by omega), lenP]
    by_cases c1 : x.f1 = a
    · rw [if_pos c1]
      by_cases c2 : x.f3.f0 = 9
      · rw [if_pos c2, if_pos ⟨c1, c2⟩]
      · rw [if_neg c2, if_neg (fun hh => c2 hh.2)]
    · rw [if_neg c1, if_neg (fun hh => c1 hh.1)]
theorem net_ev (l : List Ps) (a : Int) : Ev (fun k => book_Net.f k l a) (netSpec l a) := by
  unfold book_Net.f netSpec
  refine Ev.bind (book_ev l) ?_
  by_cases h : bookB l = true
  · rw [if_pos h]
    exact Ev.congr (fun k => if_pos h) (net_loop l a (book_parts h).1 l [] 0 rfl)
  · rw [if_neg h]; exact Ev.congr (fun k => if_neg h) (Ev.now _)

theorem short_yes (l : List Ps) : ∃ b, Ev (fun k => payrolllaw35_short.f k l) b ∧ (b = true → l.length ≤ 40) := by
  unfold payrolllaw35_short.f
  by_cases h : (l.length : Int) > 40
  · exact ⟨false, Ev.congr (fun k => if_pos h) (Ev.now _), fun e => by cases e⟩
  · have : ∀ (suf pre : List Ps), l = pre ++ suf → ∃ b, Ev (fun k => payrolllaw35_short.l0 k l (pre.length : Int)) b := by
      intro suf
      induction suf with
      | nil =>
        intro pre h
        refine ⟨true, Ev.step (f := fun _ => some true) (fun k => ?_) (Ev.now _)⟩
        simp only [payrolllaw35_short.l0]
        rw [if_neg (by rw [h]; simp)]
      | cons x suf ih =>
        intro pre h
        obtain ⟨b, hb⟩ := ih (pre ++ [x]) (by rw [h]; simp)
        have hln : l.length = pre.length + suf.length + 1 := by rw [h]; simp; omega
        have hrd : rd_T27 l (pre.length : Int) = x := by rw [h]; exact rdP_mid pre x suf
        by_cases c : (x.f3.f1.size : Int) > 60
        · refine ⟨false, Ev.step (f := fun _ => some false) (fun k => ?_) (Ev.now _)⟩
          simp only [payrolllaw35_short.l0]
          rw [if_pos (by omega), if_pos (by omega), hrd, if_pos c]
        · refine ⟨b, Ev.step (fun k => ?_) hb⟩
          simp only [payrolllaw35_short.l0]
          rw [if_pos (by omega), if_pos (by omega), hrd, if_neg c, wrapid (x := (pre.length : Int) + 1) (by omega) (by omega), lenP]
    obtain ⟨b, hb⟩ := this l [] rfl
    exact ⟨b, Ev.congr (fun k => if_neg h) hb, fun _ => by omega⟩
theorem awake_ev : Ev (fun k => payrolllaw35_awake.f k) true := Ev.of payrolllaw35_awake.mono (k := 60) (by decide +kernel)
theorem addSpec_len (l more : List Ps) : (addSpec l more).1.length ≤ 65536 := by
  unfold addSpec
  repeat' split
  all_goals simp
  omega
theorem undoSpec_len (l : List Ps) (a b : Int) : (undoSpec l a b).1.length ≤ 65536 := by
  unfold undoSpec undoEnd
  repeat' split
  all_goals first | (simp; done) | skip
  have := (book_parts (by assumption : bookB l = true)).1
  have h2 : (undoL a b l).length ≤ l.length := by unfold undoL; rw [List.length_map]; exact List.length_filter_le _ _
  simp only []
  omega
end Go.Proofs.Ytelmnkmpkljboaa.Lib35

/- What the draws of a deck answer: plain Lean over the printed functions. -/
namespace Go.Proofs.Ytelmnkmpkljboaa.DeckLib
open Go.RowKit Go.Proofs.Ytelmnkmpkljboaa.Q Go.Proofs.YtelmnkmpkljboaaW.PrintWords Go.Proofs.YtelmnkmpkljboaaW.PrintLast
theorem wrap_id {x : Int} (h : -9223372036854775808 ≤ x) (h2 : x ≤ 9223372036854775807) : wrap64 x = x := by unfold wrap64; omega
theorem tmod_pos (a n : Int) (hn : 0 < n) : -n < Int.tmod a n ∧ Int.tmod a n < n := by
  have h1 := Int.tmod_lt_of_pos a hn
  have h2 := Int.tmod_lt_of_pos (-a) hn
  rw [Int.neg_tmod] at h2
  omega
/-- The numbers drawn so far stay small. -/
def DOk (at_ : Int) (c : Int) : Prop := 0 ≤ at_ ∧ at_ ≤ c
theorem next_ok (l : List Int) (at_ n : Int) (h0 : 0 ≤ at_) (h1 : at_ ≤ 4611686018427387904) (hn : 0 < n) (hn2 : n ≤ 4611686018427387904) : ∃ r, paygen_Deck_Next.f l at_ n = some (r, at_ + 1) ∧ 0 ≤ r ∧ r < n := by
  have key : ∀ v : Int, ∃ r, (if Int.tmod v n < 0 then some (wrap64 (Int.tmod v n + n), wrap64 (at_ + 1)) else some (Int.tmod v n, wrap64 (at_ + 1))) = some (r, at_ + 1) ∧ 0 ≤ r ∧ r < n := by
    intro v
    obtain ⟨ha, hb⟩ := tmod_pos v n hn
    have hw : wrap64 (at_ + 1) = at_ + 1 := wrap_id (by omega) (by omega)
    by_cases c : Int.tmod v n < 0
    · rw [if_pos c, hw, wrap_id (by omega) (by omega)]
      exact ⟨_, rfl, by omega, by omega⟩
    · rw [if_neg c, hw]
      exact ⟨_, rfl, by omega, by omega⟩
  unfold paygen_Deck_Next.f
  by_cases c : at_ < (l.length : Int)
  · rw [if_pos c, if_pos h0, if_neg (by omega)]; exact key _
  · rw [if_neg c, if_neg (by omega)]; exact key _
theorem pick_ok (l : List Int) (at_ : Int) (xs : List Int) (h0 : 0 ≤ at_) (h1 : at_ ≤ 4611686018427387904) (hx : 0 < xs.length) (hx2 : xs.length ≤ 1000) : ∃ r, paygen_Deck_Pick.f l at_ xs = some (r, at_ + 1) ∧ r ∈ xs := by
  obtain ⟨r, hr, a, b⟩ := next_ok l at_ (xs.length : Int) h0 h1 (by omega) (by omega)
  unfold paygen_Deck_Pick.f
  rw [hr]; simp only [Option.bind_some]
  rw [if_pos a, if_pos b]
  refine ⟨_, rfl, ?_⟩
  have : r.toNat < xs.length := by omega
  simp [rd, List.getD_eq_getElem?_getD, List.getElem?_eq_getElem this]
theorem small_ok (l : List Int) (at_ : Int) (h0 : 0 ≤ at_) (h1 : at_ ≤ 4611686018427387900) : ∃ r at2, paygen_Deck_Small.f l at_ = some (r, at2) ∧ 0 ≤ r ∧ r < 600000 ∧ at2 = at_ + 2 := by
  obtain ⟨r, hr, a, b⟩ := next_ok l at_ 5 h0 (by omega) (by omega) (by omega)
  unfold paygen_Deck_Small.f
  rw [hr]; simp only [Option.bind_some]
  by_cases c : r = 0
  · rw [if_pos c]
    obtain ⟨q, hq, hm⟩ := pick_ok l (at_ + 1) [0, 0, 1, 100] (by omega) (by omega) (by simp) (by simp)
    rw [hq]; simp only [Option.bind_some]
    refine ⟨q, _, rfl, ?_, ?_, by omega⟩ <;> (simp at hm; omega)
  · rw [if_neg c]
    obtain ⟨q, hq, a2, b2⟩ := next_ok l (at_ + 1) 600000 (by omega) (by omega) (by omega) (by omega)
    rw [hq]; simp only [Option.bind_some]
    exact ⟨q, _, rfl, a2, b2, by omega⟩
theorem mod_ok (v n : Int) (hn : 0 < n) (hn2 : n ≤ 4611686018427387904) : ∃ r, (if n = 0 then (none : Option Int) else (if Int.tmod v n < 0 then some (wrap64 (Int.tmod v n + n)) else some (Int.tmod v n))) = some r ∧ 0 ≤ r ∧ r < n := by
  obtain ⟨ha, hb⟩ := tmod_pos v n hn
  rw [if_neg (by omega)]
  by_cases c : Int.tmod v n < 0
  · rw [if_pos c, wrap_id (by omega) (by omega)]
    exact ⟨_, rfl, by omega, by omega⟩
  · rw [if_neg c]
    exact ⟨_, rfl, by omega, by omega⟩
end Go.Proofs.Ytelmnkmpkljboaa.DeckLib

/- What the draws of lines answer: plain Lean over the printed functions. -/
namespace Go.Proofs.Ytelmnkmpkljboaa.DeckLib
open Go.RowKit Go.Proofs.Ytelmnkmpkljboaa.Q Go.Proofs.YtelmnkmpkljboaaW.PrintWords Go.Proofs.YtelmnkmpkljboaaW.PrintLast Go.Proofs.Ytelmnkmpkljboaa.MapKit Go.Proofs.Ytelmnkmpkljboaa.ListKit Go.Proofs.Ytelmnkmpkljboaa.Lib17 Go.Proofs.Ytelmnkmpkljboaa.Lib34
theorem code_shape : ∃ L : List ByteArray, (∀ l at_, paygen_Deck_Code.f l at_ = (paygen_Deck_Next.f l at_ 8).bind fun bt => if 0 ≤ bt.1 then (if bt.1 < (L.length : Int) then some (rdOf ByteArray.empty L bt.1, bt.2) else none) else none) ∧ L.length = 8 ∧ ∀ s ∈ L, nameS s = true :=
  ⟨_, fun _ _ => rfl, rfl, by decide +kernel⟩
theorem code_ok (l : List Int) (at_ : Int) (h0 : 0 ≤ at_) (h1 : at_ ≤ 4611686018427387900) : ∃ s, paygen_Deck_Code.f l at_ = some (s, at_ + 1) ∧ nameS s = true := by
  obtain ⟨L, h, hl, hn⟩ := code_shape
  obtain ⟨r, hr, a, b⟩ := next_ok l at_ 8 h0 (by omega) (by omega) (by omega)
  rw [h, hr, Option.bind_some]
  simp only []
  rw [if_pos a, if_pos (by omega)]
  refine ⟨_, rfl, hn _ ?_⟩
  have : r.toNat < L.length := by omega
  simp [rdOf, List.getD_eq_getElem?_getD, List.getElem?_eq_getElem this]
theorem line_ok (l : List Int) (at_ : Int) (h0 : 0 ≤ at_) (h1 : at_ ≤ 4611686018427387800) : ∃ a s n at2, paygen_Deck_Line.f l at_ = some (a, s, n, at2) ∧ formS a s n = true ∧ n ≠ 0 ∧ -600000 ≤ n ∧ n ≤ 600000 ∧ at_ ≤ at2 ∧ at2 ≤ at_ + 5 := by
  unfold paygen_Deck_Line.f
  obtain ⟨r, hr, r0, r1⟩ := next_ok l at_ 10 h0 (by omega) (by omega) (by omega)
  rw [hr]; simp only [Option.bind_some]
  obtain ⟨x, t, hx, p, q, e⟩ := small_ok l (at_ + 1) (by omega) (by omega)
  rw [hx]; simp only [Option.bind_some]
  rw [bare_eq, Option.bind_some, wrap_id (x := 1 + r) (by omega) (by omega), wrap_id (x := 1 + x) (by omega) (by omega), wrap_id (x := -(1 + x)) (by omega) (by omega)]
  have hf : ∀ (s : ByteArray) (n : Int), -600000 ≤ n → n ≤ 600000 → (if codedB (1 + r) = true then nameS s else decide (s.toList = ([] : List UInt8))) = true → formS (1 + r) s n = true := by
    intro s n hn1 hn2 hs
    unfold formS
    rw [hs, decide_eq_true (by omega), show tot n = true from decide_eq_true (by omega)]
    rfl
  cases hc : codedB (1 + r) with
  | false =>
    rw [hc] at hf
    simp only [Bool.not_false, if_true]
    obtain ⟨y, hy, y0, y1⟩ := next_ok l t 3 (by omega) (by omega) (by omega) (by omega)
    rw [hy]; simp only [Option.bind_some]
    have hnil : (if false = true then nameS (⟨#[]⟩ : ByteArray) else decide ((⟨#[]⟩ : ByteArray).toList = ([] : List UInt8))) = true := by
      rw [if_neg (by simp)]; exact decide_eq_true ((nil_iff _).2 rfl)
    by_cases c : y = 0
    · rw [if_pos c]
      exact ⟨_, _, _, _, rfl, hf _ _ (by omega) (by omega) hnil, by omega, by omega, by omega, by omega, by omega⟩
    · rw [if_neg c]
      exact ⟨_, _, _, _, rfl, hf _ _ (by omega) (by omega) hnil, by omega, by omega, by omega, by omega, by omega⟩
  | true =>
    rw [hc] at hf
    simp only [Bool.not_true, Bool.false_eq_true, if_false]
    obtain ⟨s, hs, hn⟩ := code_ok l t (by omega) (by omega)
    rw [hs]; simp only [Option.bind_some]
    obtain ⟨y, hy, y0, y1⟩ := next_ok l (t + 1) 3 (by omega) (by omega) (by omega) (by omega)
    rw [hy]; simp only [Option.bind_some]
    have hnm : (if true = true then nameS s else decide (s.toList = ([] : List UInt8))) = true := by rw [if_pos rfl]; exact hn
    by_cases c : y = 0
    · rw [if_pos c]
      exact ⟨_, _, _, _, rfl, hf _ _ (by omega) (by omega) hnm, by omega, by omega, by omega, by omega, by omega⟩
    · rw [if_neg c]
      exact ⟨_, _, _, _, rfl, hf _ _ (by omega) (by omega) hnm, by omega, by omega, by omega, by omega, by omega⟩
end Go.Proofs.Ytelmnkmpkljboaa.DeckLib

/- What the draws of books answer: plain Lean over the printed functions. -/
namespace Go.Proofs.Ytelmnkmpkljboaa.DeckLib
open Go.RowKit Go.Proofs.Ytelmnkmpkljboaa.Q Go.Proofs.YtelmnkmpkljboaaW.PrintWords Go.Proofs.YtelmnkmpkljboaaW.PrintLast Go.Proofs.Ytelmnkmpkljboaa.MapKit Go.Proofs.Ytelmnkmpkljboaa.ListKit Go.Proofs.Ytelmnkmpkljboaa.Lib17 Go.Proofs.Ytelmnkmpkljboaa.Lib34 Go.Proofs.Ytelmnkmpkljboaa.Lib35
/-- A posting as a deck draws it. -/
def Drawn1 (p : Ps) : Prop := validP p = true ∧ 1 ≤ p.f0 ∧ p.f0 ≤ 100 ∧ 1 ≤ p.f1 ∧ p.f1 ≤ 3 ∧ 0 ≤ p.f2 ∧ p.f2 ≤ 2 ∧ -600000 ≤ p.f3.f2 ∧ p.f3.f2 ≤ 600000
structure DBook (b : List Ps) (run : Int) : Prop where
  each : ∀ p ∈ b, Drawn1 p
  up : runsUp none b = true
  le : ∀ p ∈ b, p.f0 ≤ run
theorem runsUp_snoc : ∀ (b : List Ps) (prev : Option Int) (p : Ps), runsUp prev b = true → (∀ q ∈ b, q.f0 ≤ p.f0) → okAfter prev p.f0 = true → runsUp prev (b ++ [p]) = true
  | [], prev, p, _, _, h => by simp [runsUp, h]
  | q :: r, prev, p, h, hle, h2 => by
    simp only [runsUp, Bool.and_eq_true] at h
    simp only [List.cons_append, runsUp, Bool.and_eq_true]
    refine ⟨h.1, runsUp_snoc r (some q.f0) p h.2 (fun x hx => hle x (List.mem_cons_of_mem _ hx)) ?_⟩
    exact decide_eq_true (hle q List.mem_cons_self)
theorem DBook.snoc {b : List Ps} {run : Int} (h : DBook b run) (p : Ps) (hp : Drawn1 p) (hr : p.f0 = run) : DBook (b ++ [p]) run := by
  refine ⟨fun q hq => ?_, runsUp_snoc b none p h.up (fun q hq => by rw [hr]; exact h.le q hq) rfl, fun q hq => ?_⟩
  · rcases List.mem_append.1 hq with hq | hq
    · exact h.each q hq
    · rw [List.mem_singleton] at hq; subst hq; exact hp
  · rcases List.mem_append.1 hq with hq | hq
    · exact h.le q hq
    · rw [List.mem_singleton] at hq; subst hq; omega
theorem DBook.book {b : List Ps} {run : Int} (h : DBook b run) (hl : b.length ≤ 65536) : bookB b = true := by
  unfold bookB
  rw [decide_eq_true hl, h.up]
  have : b.all validP = true := List.all_eq_true.2 fun p hp => (h.each p hp).1
  rw [this]; rfl
theorem book_l1 (l : List Int) (run x7 : Int) (hr0 : 1 ≤ run) (hr1 : run ≤ 100) : ∀ (j : Nat) (b : List Ps) (at_ : Int), DBook b run → b.length + j ≤ 10000 → 0 ≤ at_ → at_ + 10 * j ≤ 1000000 →
    ∃ b2 at2, DBook b2 run ∧ b2.length = b.length + j ∧ at_ ≤ at2 ∧ at2 ≤ at_ + 10 * j ∧ ∀ r, Ev (fun k => paygen_Deck_Book.l0 k b2 run (wrap64 (x7 - 1)) l at2) r → Ev (fun k => paygen_Deck_Book.l1 k b run x7 (j : Int) l at_) r := by
  intro j
  induction j with
  | zero =>
    intro b at_ hb hl h0 h1
    refine ⟨b, at_, hb, rfl, by omega, by omega, fun r hr => Ev.step (fun k => ?_) hr⟩
    simp only [paygen_Deck_Book.l1]
    rw [if_neg (by omega)]
  | succ j ih =>
    intro b at_ hb hl h0 h1
    obtain ⟨x, hx, x0, x1⟩ := next_ok l at_ 3 h0 (by omega) (by omega) (by omega)
    obtain ⟨y, hy, y0, y1⟩ := next_ok l (at_ + 1) 3 (by omega) (by omega) (by omega) (by omega)
    obtain ⟨a, s, n, at2, hn, hf, hne, n0, n1, g0, g1⟩ := line_ok l (at_ + 1 + 1) (by omega) (by omega)
    have hp : Drawn1 ⟨run, 1 + x, y, ⟨a, s, n⟩⟩ := by
      refine ⟨?_, hr0, hr1, by show 1 ≤ 1 + x; omega, by show 1 + x ≤ 3; omega, y0, by show y ≤ 2; omega, n0, n1⟩
      unfold validP
      rw [show formL (⟨a, s, n⟩ : Ln) = true from hf]
      rw [decide_eq_true (show 1 ≤ run ∧ run ≤ 256 ∧ 1 ≤ 1 + x ∧ 1 + x ≤ 2147483647 ∧ 0 ≤ y ∧ y ≤ 84005 by omega), decide_eq_true hne]
      rfl
    obtain ⟨b2, at3, k1, k2, k3, k4, k5⟩ := ih (b ++ [⟨run, 1 + x, y, ⟨a, s, n⟩⟩]) at2 (hb.snoc _ hp rfl) (by simp; omega) (by omega) (by omega)
    refine ⟨b2, at3, k1, by rw [k2]; simp; omega, by omega, by omega, fun r hr => Ev.step (fun k => ?_) (k5 r hr)⟩
    simp only [paygen_Deck_Book.l1]
    rw [if_pos (by omega), hx, Option.bind_some, hy, Option.bind_some, hn, Option.bind_some, if_pos (by omega), wrap_id (x := 1 + x) (by omega) (by omega), wrap_id (x := ((j + 1 : Nat) : Int) - 1) (by omega) (by omega), show ((j + 1 : Nat) : Int) - 1 = (j : Int) by omega]
theorem book_l0 (l : List Int) : ∀ (j : Nat) (b : List Ps) (run at_ : Int), DBook b run → 0 ≤ run → run + 2 * j ≤ 100 → b.length + 4 * j ≤ 1000 → 0 ≤ at_ → at_ + 50 * j ≤ 1000000 →
    ∃ b2 run2 at2, Ev (fun k => paygen_Deck_Book.l0 k b run (j : Int) l at_) (b2, at2) ∧ DBook b2 run2 ∧ run2 ≤ run + 2 * j ∧ b2.length ≤ b.length + 4 * j ∧ at_ ≤ at2 ∧ at2 ≤ at_ + 50 * j := by
  intro j
  induction j with
  | zero =>
    intro b run at_ hb hr0 hr hl h0 h1
    refine ⟨b, run, at_, Ev.step (f := fun _ => some (b, at_)) (fun k => ?_) (Ev.now _), hb, by omega, by omega, by omega, by omega⟩
    simp only [paygen_Deck_Book.l0]
    rw [if_neg (by omega)]
  | succ j ih =>
    intro b run at_ hb hr0 hr hl h0 h1
    obtain ⟨x, hx, x0, x1⟩ := next_ok l at_ 2 h0 (by omega) (by omega) (by omega)
    obtain ⟨y, hy, y0, y1⟩ := next_ok l (at_ + 1) 5 (by omega) (by omega) (by omega) (by omega)
    obtain ⟨y, rfl⟩ := Int.eq_ofNat_of_zero_le y0
    have hb' : DBook b (run + (1 + x)) := ⟨hb.each, hb.up, fun p hp => by have := hb.le p hp; omega⟩
    obtain ⟨b2, at2, k1, k2, k3, k4, k5⟩ := book_l1 l (run + (1 + x)) ((j + 1 : Nat) : Int) (by omega) (by omega) y b (at_ + 1 + 1) hb' (by omega) (by omega) (by omega)
    obtain ⟨b3, run3, at3, m1, m2, m3, m4, m5, m6⟩ := ih b2 (run + (1 + x)) at2 k1 (by omega) (by omega) (by omega) (by omega) (by omega)
    rw [wrap_id (x := ((j + 1 : Nat) : Int) - 1) (by omega) (by omega), show ((j + 1 : Nat) : Int) - 1 = (j : Int) by omega] at k5
    refine ⟨b3, run3, at3, Ev.step (fun k => ?_) (k5 _ m1), m2, by omega, by omega, by omega, by omega⟩
    simp only [paygen_Deck_Book.l0]
    rw [if_pos (by omega), hx, Option.bind_some, hy, Option.bind_some, wrap_id (x := 1 + x) (by omega) (by omega), wrap_id (x := run + (1 + x)) (by omega) (by omega)]
theorem book_ok (l : List Int) (n : Nat) (hn : n ≤ 20) (at_ : Int) (h0 : 0 ≤ at_) (h1 : at_ ≤ 500000) : ∃ b run at2, Ev (fun k => paygen_Deck_Book.f k l at_ (n : Int)) (b, at2) ∧ DBook b run ∧ run ≤ 2 * n ∧ b.length ≤ 4 * n ∧ at_ ≤ at2 ∧ at2 ≤ at_ + 1001 := by
  unfold paygen_Deck_Book.f
  rw [wrap_id (x := (n : Int) + 1) (by omega) (by omega)]
  obtain ⟨j, hj, j0, j1⟩ := next_ok l at_ ((n : Int) + 1) h0 (by omega) (by omega) (by omega)
  rw [hj]
  simp only [Option.bind_some]
  obtain ⟨j, rfl⟩ := Int.eq_ofNat_of_zero_le j0
  obtain ⟨b, run, at2, k1, k2, k3, k4, k5, k6⟩ := book_l0 l j [] 0 (at_ + 1) ⟨by simp, rfl, by simp⟩ (by omega) (by omega) (by simp; omega) (by omega) (by omega)
  exact ⟨b, run, at2, k1, k2, by omega, by simp at k4; omega, by omega, by omega⟩
end Go.Proofs.Ytelmnkmpkljboaa.DeckLib
