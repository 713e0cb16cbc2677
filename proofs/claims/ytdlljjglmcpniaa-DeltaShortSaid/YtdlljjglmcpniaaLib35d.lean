/- Books: which lists are books, adding, and results, by package book. Plain Lean over the printed functions. -/
import Derived.Test.YtdlljjglmcpniaaLib34
import Derived.Test.YtdlljjglmcpniaaQx17
import Derived.Test.YtdlljjglmcpniaaQx18
import Derived.Test.YtdlljjglmcpniaaQx19
namespace Go.Proofs.Ytdlljjglmcpniaa.Lib35
open Go.RowKit Go.Proofs.Ytdlljjglmcpniaa.Q Go.Proofs.YtdlljjglmcpniaaW.PrintWords Go.Proofs.YtdlljjglmcpniaaW.PrintLast Go.Proofs.Ytdlljjglmcpniaa.MapKit Go.Proofs.Ytdlljjglmcpniaa.ListKit Go.Proofs.Ytdlljjglmcpniaa.Lib17 Go.Proofs.Ytdlljjglmcpniaa.Lib34
abbrev Ps := S58
theorem rdP_mid (pre : List Ps) (x : Ps) (suf : List Ps) : rd_T58 (pre ++ x :: suf) (pre.length : Int) = x := by
  simp [rd_T58, List.getD_eq_getElem?_getD]
theorem lenP (pre : List Ps) (x : Ps) : ((pre ++ [x]).length : Int) = (pre.length : Int) + 1 := by simp
theorem rdP_last (pre : List Ps) (q : Ps) (suf : List Ps) : rd_T58 (pre ++ [q] ++ suf) (((pre ++ [q]).length : Int) - 1) = q := by
  rw [lenP, show (pre.length : Int) + 1 - 1 = (pre.length : Int) by omega, List.append_assoc, List.singleton_append, rdP_mid]
def validP (p : Ps) : Bool := decide (1 ≤ p.f0 ∧ p.f0 ≤ 256 ∧ 1 ≤ p.f1 ∧ p.f1 ≤ 2147483647 ∧ 0 ≤ p.f2 ∧ p.f2 ≤ 84005) && (formL p.f3 && decide (p.f3.f2 ≠ 0))
theorem Form_ev (a : Int) (s : ByteArray) (n : Int) : Ev (fun k => payslip_Form.f k a s n) (formS a s n && decide (n ≠ 0)) := by
  unfold payslip_Form.f
  refine Ev.bind (form_ev a s n) ?_
  cases formS a s n with
  | true =>
    refine Ev.congr (fun k => if_pos rfl) ?_
    rw [Bool.true_and, show (n != 0) = decide (n ≠ 0) by by_cases h : n = 0 <;> simp [h]]
    exact Ev.now _
  | false => exact Ev.congr (fun k => if_neg (by simp)) (Ev.now _)
theorem valid_ev (p : Ps) : Ev (fun k => book_Valid.f k p.f0 p.f1 p.f2 p.f3.f0 p.f3.f1 p.f3.f2) (validP p) := by
  unfold book_Valid.f validP
  by_cases h : 1 ≤ p.f0 ∧ p.f0 ≤ 256 ∧ 1 ≤ p.f1 ∧ p.f1 ≤ 2147483647 ∧ 0 ≤ p.f2 ∧ p.f2 ≤ 84005
  · rw [decide_eq_true h, Bool.true_and]
    exact Ev.congr (fun k => (if_pos (by omega)).trans ((if_pos (by omega)).trans ((if_pos (by omega)).trans ((if_pos (by omega)).trans ((if_pos (by omega)).trans (if_pos (by omega))))))) (Ev.bind (Form_ev _ _ _) (Ev.now _))
  · rw [decide_eq_false h, Bool.false_and]
    refine Ev.congr (f := fun _ => some false) (fun k => ?_) (Ev.now _)
    repeat' split
    all_goals first | rfl | (exfalso; omega)
def okAfter (prev : Option Int) (n : Int) : Bool := match prev with | none => true | some q => decide (q ≤ n)
def runsUp : Option Int → List Ps → Bool
  | _, [] => true
  | prev, p :: r => okAfter prev p.f0 && runsUp (some p.f0) r
def lastRun (l : List Ps) : Option Int := l.getLast?.map (·.f0)
theorem lastRun_snoc (l : List Ps) (p : Ps) : lastRun (l ++ [p]) = some p.f0 := by simp [lastRun]
def bookB (l : List Ps) : Bool := decide (l.length ≤ 65536) && (l.all validP && runsUp none l)
theorem book_loop (l : List Ps) (hlen : l.length ≤ 65536) : ∀ (suf pre : List Ps), l = pre ++ suf → Ev (fun k => book_Book.l0 k l l (l.length : Int) (pre.length : Int)) (suf.all validP && runsUp (lastRun pre) suf) := by
  intro suf
  induction suf with
  | nil =>
    intro pre h
    refine Ev.step (f := fun _ => some true) (fun k => ?_) (Ev.now _)
    simp only [book_Book.l0]
    rw [if_neg (by rw [h]; simp)]
  | cons x suf ih =>
    intro pre h
    have h2 := ih (pre ++ [x]) (by rw [h]; simp)
    rw [lastRun_snoc] at h2
    have hln : l.length = pre.length + suf.length + 1 := by rw [h]; simp; omega
    have hrd : rd_T58 l (pre.length : Int) = x := by rw [h]; exact rdP_mid pre x suf
    refine Ev.step (f := fun k => (book_Valid.f k x.f0 x.f1 x.f2 x.f3.f0 x.f3.f1 x.f3.f2).bind fun t => if t = true then (if okAfter (lastRun pre) x.f0 = true then book_Book.l0 k l l (l.length : Int) ((pre ++ [x]).length : Int) else some false) else some false) (fun k => ?_) ?_
    · simp only [book_Book.l0]
      rw [if_pos (by omega), if_pos (by omega), if_pos (by omega), hrd, wrapid (x := (pre.length : Int) + 1) (by omega) (by omega), lenP]
      congr 1
      funext t
      by_cases ht : t = true
      · rw [if_pos ht, if_pos ht]
        rcases List.eq_nil_or_concat pre with h0 | ⟨init, q, h0⟩
        · subst h0
          rw [if_neg (by simp)]
          rfl
        · rw [List.concat_eq_append] at h0
          have hp : (pre.length : Int) = (init.length : Int) + 1 := by rw [h0]; simp
          have hrq : rd_T58 l ((pre.length : Int) - 1) = q := by rw [h, h0]; exact rdP_last init q (x :: suf)
          rw [if_pos (by omega), wrapid (x := (pre.length : Int) - 1) (by omega) (by omega), if_pos (by omega), if_pos (by omega), hrq, h0, lastRun_snoc]
          unfold okAfter
          by_cases c : q.f0 > x.f0
          · rw [if_pos c, if_neg (by simp; omega)]
          · rw [if_neg c, if_pos (by simp; omega)]
      · rw [if_neg ht, if_neg ht]
    · refine Ev.bind (valid_ev x) ?_
      rw [List.all_cons]
      show Ev _ ((validP x && suf.all validP) && (okAfter (lastRun pre) x.f0 && runsUp (some x.f0) suf))
      cases validP x with
      | false => exact Ev.congr (fun k => if_neg (by simp)) (Ev.now _)
      | true =>
        refine Ev.congr (fun k => if_pos rfl) ?_
        rw [Bool.true_and]
        cases okAfter (lastRun pre) x.f0 with
        | false => rw [Bool.false_and, Bool.and_false]; exact Ev.congr (fun k => if_neg (by simp)) (Ev.now _)
        | true => rw [Bool.true_and]; exact Ev.congr (fun k => if_pos rfl) h2
theorem book_ev (l : List Ps) : Ev (fun k => book_Book.f k l) (bookB l) := by
  unfold book_Book.f bookB
  by_cases h : (l.length : Int) > 65536
  · rw [decide_eq_false (by omega), Bool.false_and]; exact Ev.congr (fun k => if_pos h) (Ev.now _)
  · rw [decide_eq_true (by omega), Bool.true_and]; exact Ev.congr (fun k => if_neg h) (book_loop l (by omega) l [] rfl)
/-! ### Add -/
def addSpec (l more : List Ps) : List Ps × Int :=
  if bookB l = true then (if more.all validP = true then (if l.length + more.length > 65536 then ([], 18) else if runsUp none (l ++ more) = true then (l ++ more, 0) else ([], 15)) else ([], 1)) else ([], 1)
theorem book_parts {l : List Ps} (h : bookB l = true) : l.length ≤ 65536 ∧ l.all validP = true ∧ runsUp none l = true := by
  simp only [bookB, Bool.and_eq_true, decide_eq_true_eq] at h
  exact ⟨h.1, h.2.1, h.2.2⟩
theorem add_l1 (l : List Ps) (hlen : l.length ≤ 65536) : ∀ (suf pre : List Ps), l = pre ++ suf → 0 < pre.length → Ev (fun k => book_Add.l1 k l (pre.length : Int)) (if runsUp (lastRun pre) suf = true then (l, 0) else ([], 15)) := by
  intro suf
  induction suf with
  | nil =>
    intro pre h _
    refine Ev.step (f := fun _ => some (l, 0)) (fun k => ?_) (Ev.now _)
    simp only [book_Add.l1]
    rw [if_neg (by rw [h]; simp)]
  | cons x suf ih =>
    intro pre h hpos
    have h2 := ih (pre ++ [x]) (by rw [h]; simp) (by simp)
    rw [lastRun_snoc] at h2
    have hln : l.length = pre.length + suf.length + 1 := by rw [h]; simp; omega
    have hrd : rd_T58 l (pre.length : Int) = x := by rw [h]; exact rdP_mid pre x suf
    refine Ev.step (f := fun k => if okAfter (lastRun pre) x.f0 = true then book_Add.l1 k l ((pre ++ [x]).length : Int) else some ([], 15)) (fun k => ?_) ?_
    · simp only [book_Add.l1]
      rcases List.eq_nil_or_concat pre with h0 | ⟨init, q, h0⟩
      · subst h0; simp at hpos
      · rw [List.concat_eq_append] at h0
        have hp : (pre.length : Int) = (init.length : Int) + 1 := by rw [h0]; simp
        have hrq : rd_T58 l ((pre.length : Int) - 1) = q := by rw [h, h0]; exact rdP_last init q (x :: suf)
        rw [if_pos (by omega), wrapid (x := (pre.length : Int) - 1) (by omega) (by omega), if_pos (by omega), if_pos (by omega), if_pos (by omega), hrq, hrd, wrapid (x := (pre.length : Int) + 1) (by omega) (by omega), lenP, h0, lastRun_snoc]
        unfold okAfter
        by_cases c : q.f0 > x.f0
        · rw [if_pos c, if_neg (by simp; omega)]
        · rw [if_neg c, if_pos (by simp; omega)]
    · show Ev _ (if (okAfter (lastRun pre) x.f0 && runsUp (some x.f0) suf) = true then (l, 0) else ([], 15))
      cases okAfter (lastRun pre) x.f0 with
      | false => rw [Bool.false_and]; exact Ev.congr (fun k => if_neg (by simp)) (Ev.now _)
      | true => rw [Bool.true_and]; exact Ev.congr (fun k => if_pos rfl) h2
theorem add_l0 (l more : List Ps) (hl : l.length ≤ 65536) (hm : more.length ≤ 1000000) : ∀ (suf pre : List Ps), more = pre ++ suf → Ev (fun k => book_Add.l0 k l more more (more.length : Int) (pre.length : Int)) (if suf.all validP = true then (if l.length + more.length > 65536 then ([], 18) else if runsUp none (l ++ more) = true then (l ++ more, 0) else ([], 15)) else ([], 1)) := by
  intro suf
  induction suf with
  | nil =>
    intro pre h
    rw [List.all_nil, if_pos rfl]
    have hu : ∀ k, book_Add.l0 (k + 1) l more more (more.length : Int) (pre.length : Int) = if l.length + more.length > 65536 then some ([], 18) else book_Add.l1 k (l ++ more) 1 := fun k => by
      simp only [book_Add.l0]
      rw [if_neg (by rw [h]; simp), wrapid (x := (l.length : Int) + (more.length : Int)) (by omega) (by omega)]
      by_cases c : l.length + more.length > 65536
      · rw [if_pos (by omega), if_pos c]
      · rw [if_neg (by omega), if_neg c, if_pos (by omega), if_pos (by omega), Option.bind_some, if_pos (by simp; omega), Option.bind_some, List.nil_append, if_pos (by omega)]
    refine Ev.step hu ?_
    by_cases c : l.length + more.length > 65536
    · rw [if_pos c]; exact Ev.congr (fun k => if_pos c) (Ev.now _)
    · rw [if_neg c]
      refine Ev.congr (fun k => if_neg c) ?_
      have hlen : (l ++ more).length ≤ 65536 := by rw [List.length_append]; omega
      cases hll : l ++ more with
      | nil =>
        refine Ev.step (f := fun _ => some (([] : List Ps), 0)) (fun k => ?_) (Ev.now _)
        simp only [book_Add.l1]
        rw [if_neg (by simp)]
      | cons p r =>
        have := add_l1 (p :: r) (hll ▸ hlen) r [p] rfl (by simp)
        show Ev _ (if (okAfter none p.f0 && runsUp (some p.f0) r) = true then (p :: r, 0) else ([], 15))
        rw [show okAfter none p.f0 = true from rfl, Bool.true_and]
        exact this
  | cons x suf ih =>
    intro pre h
    have h2 := ih (pre ++ [x]) (by rw [h]; simp)
    have hln : more.length = pre.length + suf.length + 1 := by rw [h]; simp; omega
    have hrd : rd_T58 more (pre.length : Int) = x := by rw [h]; exact rdP_mid pre x suf
    refine Ev.step (f := fun k => (book_Valid.f k x.f0 x.f1 x.f2 x.f3.f0 x.f3.f1 x.f3.f2).bind fun t => if t = true then book_Add.l0 k l more more (more.length : Int) ((pre ++ [x]).length : Int) else some ([], 1)) (fun k => ?_) ?_
    · simp only [book_Add.l0]
      rw [if_pos (by omega), if_pos (by omega), if_pos (by omega), hrd, wrapid (x := (pre.length : Int) + 1) (by omega) (by omega), lenP]
    · refine Ev.bind (valid_ev x) ?_
      rw [List.all_cons]
      cases validP x with
      | false => rw [Bool.false_and]; exact Ev.congr (fun k => if_neg (by simp)) (Ev.now _)
      | true => rw [Bool.true_and]; exact Ev.congr (fun k => if_pos rfl) h2
theorem add_ev (l more : List Ps) (hm : more.length ≤ 1000000) : Ev (fun k => book_Add.f k l more) (addSpec l more) := by
  unfold book_Add.f addSpec
  refine Ev.bind (book_ev l) ?_
  by_cases h : bookB l = true
  · rw [if_pos h]
    exact Ev.congr (fun k => if_pos h) (add_l0 l more (book_parts h).1 hm more [] rfl)
  · rw [if_neg h]; exact Ev.congr (fun k => if_neg h) (Ev.now _)
def resultSpec (l : List Ps) (a b : Int) : List Ln := if bookB l = true then (mergeSpec (linesResult a b l)).1 else []
theorem mergeSpec_or (l : List Ln) : (mergeSpec l).1 = if (mergeSpec l).2 = 0 then (mergeSpec l).1 else [] := by
  unfold mergeSpec
  by_cases h : (sumsSpec l).2 = 0
  · rw [if_pos h, if_pos rfl]
  · rw [if_neg h]; simp
theorem result_ev (l : List Ps) (a b : Int) : Ev (fun k => book_Result.f k l a b) (resultSpec l a b) := by
  unfold book_Result.f resultSpec
  refine Ev.bind (book_ev l) ?_
  by_cases h : bookB l = true
  · rw [if_pos h]
    refine Ev.congr (fun k => if_pos h) (Ev.bind (merge_ev _) ?_)
    rw [mergeSpec_or]
    by_cases h2 : (mergeSpec (linesResult a b l)).2 = 0
    · rw [if_pos h2, if_pos h2]; exact Ev.now _
    · rw [if_neg h2, if_neg h2]; exact Ev.now _
  · rw [if_neg h]; exact Ev.congr (fun k => if_neg h) (Ev.now _)

end Go.Proofs.Ytdlljjglmcpniaa.Lib35
