/- Books: which postings are valid and which lists are books, by package book and by its reference. Plain Lean over the printed functions. -/
import Derived.Test.YtfakedchahildaaLib34f
import Derived.Test.YtfakedchahildaaQx5
import Derived.Test.YtfakedchahildaaQx6
import Derived.Test.YtfakedchahildaaQx13
namespace Go.Proofs.Ytfakedchahildaa.Lib35
open Go.RowKit Go.Proofs.Ytfakedchahildaa.Q Go.Proofs.YtfakedchahildaaW.PrintWords Go.Proofs.YtfakedchahildaaW.PrintLast Go.Proofs.Ytfakedchahildaa.MapKit Go.Proofs.Ytfakedchahildaa.ListKit Go.Proofs.Ytfakedchahildaa.Lib17 Go.Proofs.Ytfakedchahildaa.Lib34
abbrev Ps := S28
theorem rdP_mid (pre : List Ps) (x : Ps) (suf : List Ps) : rd_T28 (pre ++ x :: suf) (pre.length : Int) = x := by
  simp [rd_T28, List.getD_eq_getElem?_getD]
theorem lenP (pre : List Ps) (x : Ps) : ((pre ++ [x]).length : Int) = (pre.length : Int) + 1 := by simp
theorem rdP_last (pre : List Ps) (q : Ps) (suf : List Ps) : rd_T28 (pre ++ [q] ++ suf) (((pre ++ [q]).length : Int) - 1) = q := by
  rw [lenP, show (pre.length : Int) + 1 - 1 = (pre.length : Int) by omega, List.append_assoc, List.singleton_append, rdP_mid]
def validP (p : Ps) : Bool := decide (1 ≤ p.f0 ∧ p.f0 ≤ 256 ∧ 1 ≤ p.f1 ∧ p.f1 ≤ 2147483647 ∧ 0 ≤ p.f2 ∧ p.f2 ≤ 84005) && (formL p.f3 && decide (p.f3.f2 ≠ 0))
theorem Form_ev (a : Int) (s : ByteArray) (n : Int) : Ev (fun k => payslip_Form.f k a s n) (formS a s n && decide (n ≠ 0)) := by
  unfold payslip_Form.f
  refine Ev.bind (form_ev a s n) ?_
  cases formS a s n with
  | true =>
    refine Ev.congr (fun k => if_pos rfl) ?_
    rw [Bool.true_and, show (n != 0) = decide (n ≠ 0) by by_cases h : n = 0 <;> simp [h]]
    exact Ev.now _
  | false => exact Ev.congr (fun k => if_neg (by simp)) (Ev.now _)
theorem rForm_ev (a : Int) (s : ByteArray) (n : Int) : Ev (fun k => payrollref34_Form.f k a s n) (formS a s n && decide (n ≠ 0)) := by
  unfold payrollref34_Form.f
  by_cases h : n = 0
  · rw [decide_eq_false (by omega), Bool.and_false]; exact Ev.congr (fun k => if_pos h) (Ev.now _)
  · rw [decide_eq_true h, Bool.and_true]; exact Ev.congr (fun k => if_neg h) (Ev.bind (rform_ev a s n) (Ev.now _))
theorem valid_ev (p : Ps) : Ev (fun k => book_Valid.f k p.f0 p.f1 p.f2 p.f3.f0 p.f3.f1 p.f3.f2) (validP p) := by
  unfold book_Valid.f validP
  by_cases h : 1 ≤ p.f0 ∧ p.f0 ≤ 256 ∧ 1 ≤ p.f1 ∧ p.f1 ≤ 2147483647 ∧ 0 ≤ p.f2 ∧ p.f2 ≤ 84005
  · rw [decide_eq_true h, Bool.true_and]
    exact Ev.congr (fun k => (if_pos (by omega)).trans ((if_pos (by omega)).trans ((if_pos (by omega)).trans ((if_pos (by omega)).trans ((if_pos (by omega)).trans (if_pos (by omega))))))) (Ev.bind (Form_ev _ _ _) (Ev.now _))
  · rw [decide_eq_false h, Bool.false_and]
    refine Ev.congr (f := fun _ => some false) (fun k => ?_) (Ev.now _)
    repeat' split
    all_goals first | rfl | (exfalso; omega)
theorem rvalid_ev (p : Ps) : Ev (fun k => payrollref35_Valid.f k p.f0 p.f1 p.f2 p.f3.f0 p.f3.f1 p.f3.f2) (validP p) := by
  unfold payrollref35_Valid.f validP
  by_cases h : 1 ≤ p.f0 ∧ p.f0 ≤ 256 ∧ 1 ≤ p.f1 ∧ p.f1 ≤ 2147483647 ∧ 0 ≤ p.f2 ∧ p.f2 ≤ 84005
  · rw [decide_eq_true h, Bool.true_and]
    exact Ev.congr (fun k => (if_pos (by omega)).trans ((if_pos (by omega)).trans ((if_pos (by omega)).trans ((if_pos (by omega)).trans ((if_pos (by omega)).trans (if_pos (by omega))))))) (Ev.bind (rForm_ev _ _ _) (Ev.now _))
  · rw [decide_eq_false h, Bool.false_and]
    refine Ev.congr (f := fun _ => some false) (fun k => ?_) (Ev.now _)
    repeat' split
    all_goals first | rfl | (exfalso; omega)
def okAfter (prev : Option Int) (n : Int) : Bool := match prev with | none => true | some q => decide (q ≤ n)
def runsUp : Option Int → List Ps → Bool
  | _, [] => true
  | prev, p :: r => okAfter prev p.f0 && runsUp (some p.f0) r
def lastRun (l : List Ps) : Option Int := l.getLast?.map (·.f0)
theorem lastRun_snoc (l : List Ps) (p : Ps) : lastRun (l ++ [p]) = some p.f0 := by simp [lastRun]
def bookB (l : List Ps) : Bool := decide (l.length ≤ 65536) && (l.all validP && runsUp none l)
theorem book_loop (l : List Ps) (hlen : l.length ≤ 65536) : ∀ (suf pre : List Ps), l = pre ++ suf → Ev (fun k => book_Book.l0 k l l (l.length : Int) (pre.length : Int)) (suf.all validP && runsUp (lastRun pre) suf) := by
  intro suf
  induction suf with
  | nil =>
    intro pre h
    refine Ev.step (f := fun _ => some true) (fun k => ?_) (Ev.now _)
    simp only [book_Book.l0]
    rw [if_neg (by rw [h]; simp)]
  | cons x suf ih =>
    intro pre h
    have h2 := ih (pre ++ [x]) (by rw [h]; simp)
    rw [lastRun_snoc] at h2
    have hln : l.length = pre.length + suf.length + 1 := by rw [h]; simp; omega
    have hrd : rd_T28 l (pre.length : Int) = x := by rw [h]; exact rdP_mid pre x suf
    refine Ev.step (f := fun k => (book_Valid.f k x.f0 x.f1 x.f2 x.f3.f0 x.f3.f1 x.f3.f2).bind fun t => if t = true then (if okAfter (lastRun pre) x.f0 = true then book_Book.l0 k l l (l.length : Int) ((pre ++ [x]).length : Int) else some false) else some false) (fun k => ?_) ?_
    · simp only [book_Book.l0]
      rw [if_pos (by omega), if_pos (by omega), if_pos (by omega), hrd, wrapid (x := (pre.length : Int) + 1) (by omega) (by omega), lenP]
      congr 1
      funext t
      by_cases ht : t = true
      · rw [if_pos ht, if_pos ht]
        rcases List.eq_nil_or_concat pre with h0 | ⟨init, q, h0⟩
        · subst h0
          rw [if_neg (by simp)]
          rfl
        · rw [List.concat_eq_append] at h0
          have hp : (pre.length : Int) = (init.length : Int) + 1 := by rw [h0]; simp
          have hrq : rd_T28 l ((pre.length : Int) - 1) = q := by rw [h, h0]; exact rdP_last init q (x :: suf)
          rw [if_pos (by omega), wrapid (x := (pre.length : Int) - 1) (by omega) (by omega), if_pos (by omega), if_pos (by omega), hrq, h0, lastRun_snoc]
          unfold okAfter
          by_cases c : q.f0 > x.f0
          · rw [if_pos c, if_neg (by simp; omega)]
          · rw [if_neg c, if_pos (by simp; omega)]
      · rw [if_neg ht, if_neg ht]
    · refine Ev.bind (valid_ev x) ?_
      rw [List.all_cons]
      show Ev _ ((validP x && suf.all validP) && (okAfter (lastRun pre) x.f0 && runsUp (some x.f0) suf))
      cases validP x with
      | false => exact Ev.congr (fun k => if_neg (by simp)) (Ev.now _)
      | true =>
        refine Ev.congr (fun k => if_pos rfl) ?_
        rw [Bool.true_and]
        cases okAfter (lastRun pre) x.f0 with
        | false => rw [Bool.false_and, Bool.and_false]; exact Ev.congr (fun k => if_neg (by simp)) (Ev.now _)
        | true => rw [Bool.true_and]; exact Ev.congr (fun k => if_pos rfl) h2
theorem book_ev (l : List Ps) : Ev (fun k => book_Book.f k l) (bookB l) := by
  unfold book_Book.f bookB
  by_cases h : (l.length : Int) > 65536
  · rw [decide_eq_false (by omega), Bool.false_and]; exact Ev.congr (fun k => if_pos h) (Ev.now _)
  · rw [decide_eq_true (by omega), Bool.true_and]; exact Ev.congr (fun k => if_neg h) (book_loop l (by omega) l [] rfl)
theorem rbook_loop (l : List Ps) (hlen : l.length ≤ 65536) : ∀ (suf pre : List Ps), l = pre ++ suf → Ev (fun k => payrollref35_Book.l0 k l (pre.length : Int)) (suf.all validP && runsUp (lastRun pre) suf) := by
  intro suf
  induction suf with
  | nil =>
    intro pre h
    refine Ev.step (f := fun _ => some true) (fun k => ?_) (Ev.now _)
    simp only [payrollref35_Book.l0]
    rw [if_neg (by rw [h]; simp)]
  | cons x suf ih =>
    intro pre h
    have h2 := ih (pre ++ [x]) (by rw [h]; simp)
    rw [lastRun_snoc] at h2
    have hln : l.length = pre.length + suf.length + 1 := by rw [h]; simp; omega
    have hrd : rd_T28 l (pre.length : Int) = x := by rw [h]; exact rdP_mid pre x suf
    refine Ev.step (f := fun k => (payrollref35_Valid.f k x.f0 x.f1 x.f2 x.f3.f0 x.f3.f1 x.f3.f2).bind fun t => if t = true then (if okAfter (lastRun pre) x.f0 = true then payrollref35_Book.l0 k l ((pre ++ [x]).length : Int) else some false) else some false) (fun k => ?_) ?_
    · simp only [payrollref35_Book.l0]
      rw [if_pos (by omega), if_pos (by omega), hrd, wrapid (x := (pre.length : Int) + 1) (by omega) (by omega), lenP]
      congr 1
      funext t
      by_cases ht : t = true
      · rw [if_pos ht, if_pos ht]
        rcases List.eq_nil_or_concat pre with h0 | ⟨init, q, h0⟩
        · subst h0
          rw [if_neg (by simp)]
          rfl
        · rw [List.concat_eq_append] at h0
          have hp : (pre.length : Int) = (init.length : Int) + 1 := by rw [h0]; simp
          have hrq : rd_T28 l ((pre.length : Int) - 1) = q := by rw [h, h0]; exact rdP_last init q (x :: suf)
          rw [if_pos (by omega), wrapid (x := (pre.length : Int) - 1) (by omega) (by omega), if_pos (by omega), if_pos (by omega), hrq, h0, lastRun_snoc]
          unfold okAfter
          by_cases c : q.f0 > x.f0
          · rw [if_pos c, if_neg (by simp; omega)]
          · rw [if_neg c, if_pos (by simp; omega)]
      · rw [if_neg ht, if_neg ht]
    · refine Ev.bind (rvalid_ev x) ?_
      rw [List.all_cons]
      show Ev _ ((validP x && suf.all validP) && (okAfter (lastRun pre) x.f0 && runsUp (some x.f0) suf))
      cases validP x with
      | false => exact Ev.congr (fun k => if_neg (by simp)) (Ev.now _)
      | true =>
        refine Ev.congr (fun k => if_pos rfl) ?_
        rw [Bool.true_and]
        cases okAfter (lastRun pre) x.f0 with
        | false => rw [Bool.false_and, Bool.and_false]; exact Ev.congr (fun k => if_neg (by simp)) (Ev.now _)
        | true => rw [Bool.true_and]; exact Ev.congr (fun k => if_pos rfl) h2
theorem rbook_ev (l : List Ps) : Ev (fun k => payrollref35_Book.f k l) (bookB l) := by
  unfold payrollref35_Book.f bookB
  by_cases h : (l.length : Int) > 65536
  · rw [decide_eq_false (by omega), Bool.false_and]; exact Ev.congr (fun k => if_pos h) (Ev.now _)
  · rw [decide_eq_true (by omega), Bool.true_and]; exact Ev.congr (fun k => if_neg h) (rbook_loop l (by omega) l [] rfl)
theorem book_parts {l : List Ps} (h : bookB l = true) : l.length ≤ 65536 ∧ l.all validP = true ∧ runsUp none l = true := by
  simp only [bookB, Bool.and_eq_true, decide_eq_true_eq] at h
  exact ⟨h.1, h.2.1, h.2.2⟩
end Go.Proofs.Ytfakedchahildaa.Lib35
