/- Books: undo, net, as-of, result and period of package book and of its reference. Plain Lean over the printed functions. -/
import Derived.Test.YtelmnkmpkljboaaLib35
import Derived.Test.YtelmnkmpkljboaaQx16
import Derived.Test.YtelmnkmpkljboaaQx5
import Derived.Test.YtelmnkmpkljboaaQx6
import Derived.Test.YtelmnkmpkljboaaQx9
import Derived.Test.YtelmnkmpkljboaaQx7
namespace Go.Proofs.Ytelmnkmpkljboaa.Lib35
open Go.RowKit Go.Proofs.Ytelmnkmpkljboaa.Q Go.Proofs.YtelmnkmpkljboaaW.PrintWords Go.Proofs.YtelmnkmpkljboaaW.PrintLast Go.Proofs.Ytelmnkmpkljboaa.MapKit Go.Proofs.Ytelmnkmpkljboaa.ListKit Go.Proofs.Ytelmnkmpkljboaa.Lib17 Go.Proofs.Ytelmnkmpkljboaa.Lib34
def undoL (a b : Int) (l : List Ps) : List Ps := (l.filter (fun p => p.f0 == a)).map (fun p => ⟨b, p.f1, p.f2, ⟨p.f3.f0, p.f3.f1, wrap64 (-p.f3.f2)⟩⟩)
def undoEnd (l : List Ps) (b : Int) (u : List Ps) : List Ps × Int := if u.length = 0 then ([], 16) else if (rd_T27 l ((l.length : Int) - 1)).f0 ≥ b then ([], 15) else (u, 0)
def undoSpec (l : List Ps) (a b : Int) : List Ps × Int := if bookB l = true then (if 1 ≤ b ∧ b ≤ 256 then undoEnd l b (undoL a b l) else ([], 1)) else ([], 1)
def netL (a : Int) (n : Int) : List Ps → Int
  | [] => n
  | p :: r => netL a (if p.f1 = a ∧ p.f3.f0 = 9 then wrap64 (n + p.f3.f2) else n) r
def netSpec (l : List Ps) (a : Int) : Int := if bookB l = true then netL a 0 l else 0
def asofL (a : Int) (l : List Ps) : List Ps := l.filter (fun p => decide (p.f0 ≤ a))
def asofSpec (l : List Ps) (a : Int) : List Ps := if bookB l = true then asofL a l else []
def resultSpec (l : List Ps) (a b : Int) : List Ln := if bookB l = true then (mergeSpec (linesResult a b l)).1 else []
theorem mergeSpec_or (l : List Ln) : (mergeSpec l).1 = if (mergeSpec l).2 = 0 then (mergeSpec l).1 else [] := by
  unfold mergeSpec
  by_cases h : (sumsSpec l).2 = 0
  · rw [if_pos h, if_pos rfl]
  · rw [if_neg h]; simp
theorem result_ev (l : List Ps) (a b : Int) : Ev (fun k => book_Result.f k l a b) (resultSpec l a b) := by
  unfold book_Result.f resultSpec
  refine Ev.bind (book_ev l) ?_
  by_cases h : bookB l = true
  · rw [if_pos h]
    refine Ev.congr (fun k => if_pos h) (Ev.bind (merge_ev _) ?_)
    rw [mergeSpec_or]
    by_cases h2 : (mergeSpec (linesResult a b l)).2 = 0
    · rw [if_pos h2, if_pos h2]; exact Ev.now _
    · rw [if_neg h2, if_neg h2]; exact Ev.now _
  · rw [if_neg h]; exact Ev.congr (fun k => if_neg h) (Ev.now _)

theorem undo_loop (l : List Ps) (a b : Int) (hlen : l.length ≤ 65536) : ∀ (suf pre acc : List Ps), l = pre ++ suf → acc.length ≤ pre.length → Ev (fun k => book_Undo.l0 k l a b acc l (l.length : Int) (pre.length : Int)) (undoEnd l b (acc ++ undoL a b suf)) := by
  intro suf
  induction suf with
  | nil =>
    intro pre acc h hacc
    have hn : l.length = pre.length := by rw [h]; simp
    refine Ev.step (f := fun _ => some (undoEnd l b acc)) (fun k => ?_) (by rw [show undoL a b [] = [] from rfl, List.append_nil]; exact Ev.now _)
    simp only [book_Undo.l0]
    rw [if_neg (by omega)]
    unfold undoEnd
    by_cases c : acc.length = 0
    · rw [if_pos (by omega), if_pos c]
    · rw [if_neg (by omega), if_neg c, wrapid (x := (l.length : Int) - 1) (by omega) (by omega), if_pos (by omega), if_pos (by omega)]
      by_cases c2 : (rd_T27 l ((l.length : Int) - 1)).f0 ≥ b
      · rw [if_pos c2, if_pos c2]
      · rw [if_neg c2, if_neg c2]
  | cons x suf ih =>
    intro pre acc h hacc
    have hln : l.length = pre.length + suf.length + 1 := by rw [h]; simp; omega
    have hrd : rd_T27 l (pre.length : Int) = x := by rw [h]; exact rdP_mid pre x suf
    by_cases c : x.f0 = a
    · have h2 := ih (pre ++ [x]) (acc ++ [⟨b, x.f1, x.f2, ⟨x.f3.f0, x.f3.f1, wrap64 (-x.f3.f2)⟩⟩]) (by rw [h]; simp) (by simp; omega)
      have e : undoL a b (x :: suf) = ⟨b, x.f1, x.f2, ⟨x.f3.f0, x.f3.f1, wrap64 (-x.f3.f2)⟩⟩ :: undoL a b suf := by simp [undoL, c]
      rw [List.append_assoc, List.singleton_append, ← e] at h2
      refine Ev.step (fun k => ?_) h2
      simp only [book_Undo.l0]
      rw [if_pos (by omega), if_pos (by omega), if_pos (by omega), hrd, if_pos c, if_pos (by omega), wrapid (x := (pre.length : Int) + 1) (by omega) (by omega), lenP]
    · have h2 := ih (pre ++ [x]) acc (by rw [h]; simp) (by simp; omega)
      have e : undoL a b (x :: suf) = undoL a b suf := by simp [undoL, c]
      rw [← e] at h2
      refine Ev.step (fun k => ?_) h2
      simp only [book_Undo.l0]
      rw [if_pos (by omega), if_pos (by omega), if_pos (by omega), hrd, if_neg c, wrapid (x := (pre.length : Int) + 1) (by omega) (by omega), lenP]
theorem undo_ev (l : List Ps) (a b : Int) : Ev (fun k => book_Undo.f k l a b) (undoSpec l a b) := by
  unfold book_Undo.f undoSpec
  refine Ev.bind (book_ev l) ?_
  by_cases h : bookB l = true
  · rw [if_pos h]
    refine Ev.congr (fun k => if_pos h) ?_
    have hbad : Ev (fun k => book_Undo.j0 k l a b true) ([], 1) := Ev.step (f := fun _ => some ([], 1)) (fun k => by simp [book_Undo.j0]) (Ev.now _)
    by_cases c1 : b < 1
    · rw [if_neg (show ¬ (1 ≤ b ∧ b ≤ 256) by omega)]
      exact Ev.congr (fun k => if_pos c1) hbad
    · by_cases c2 : b > 256
      · rw [if_neg (show ¬ (1 ≤ b ∧ b ≤ 256) by omega)]
        exact Ev.congr (fun k => (if_neg c1).trans (by rw [decide_eq_true c2])) hbad
      · rw [if_pos (show 1 ≤ b ∧ b ≤ 256 by omega)]
        refine Ev.congr (f := fun k => book_Undo.j0 k l a b false) (fun k => (if_neg c1).trans (by rw [decide_eq_false c2])) ?_
        have := undo_loop l a b (book_parts h).1 l [] [] rfl (Nat.le_refl _)
        exact Ev.step (fun k => by simp [book_Undo.j0]) this
  · rw [if_neg h]
    exact Ev.congr (fun k => if_neg h) (Ev.step (f := fun _ => some ([], 1)) (fun k => by simp [book_Undo.j0]) (Ev.now _))


theorem net_loop (l : List Ps) (a : Int) (hlen : l.length ≤ 65536) : ∀ (suf pre : List Ps) (n : Int), l = pre ++ suf → Ev (fun k => book_Net.l0 k a n l (l.length : Int) (pre.length : Int)) (netL a n suf) := by
  intro suf
  induction suf with
  | nil =>
    intro pre n h
    refine Ev.step (f := fun _ => some n) (fun k => ?_) (Ev.now _)
    simp only [book_Net.l0]
    rw [if_neg (by rw [h]; simp)]
  | cons x suf ih =>
    intro pre n h
    have hln : l.length = pre.length + suf.length + 1 := by rw [h]; simp; omega
    have hrd : rd_T27 l (pre.length : Int) = x := by rw [h]; exact rdP_mid pre x suf
    refine Ev.step (fun k => ?_) (ih (pre ++ [x]) (if x.f1 = a ∧ x.f3.f0 = 9 then wrap64 (n + x.f3.f2) else n) (by rw [h]; simp))
    simp only [book_Net.l0]
    rw [if_pos (by omega), if_pos (by omega), if_pos (by omega), hrd, wrapid (x := (pre.length : Int) + 1) (by omega) (by omega), lenP]
    by_cases c1 : x.f1 = a
    · rw [if_pos c1]
      by_cases c2 : x.f3.f0 = 9
      · rw [if_pos c2, if_pos ⟨c1, c2⟩]
      · rw [if_neg c2, if_neg (fun hh => c2 hh.2)]
    · rw [if_neg c1, if_neg (fun hh => c1 hh.1)]
theorem net_ev (l : List Ps) (a : Int) : Ev (fun k => book_Net.f k l a) (netSpec l a) := by
  unfold book_Net.f netSpec
  refine Ev.bind (book_ev l) ?_
  by_cases h : bookB l = true
  · rw [if_pos h]
    exact Ev.congr (fun k => if_pos h) (net_loop l a (book_parts h).1 l [] 0 rfl)
  · rw [if_neg h]; exact Ev.congr (fun k => if_neg h) (Ev.now _)

theorem awake_ev : Ev (fun k => payrolllaw35_awake.f k) true := Ev.of payrolllaw35_awake.mono (k := 60) (by decide +kernel)
end Go.Proofs.Ytelmnkmpkljboaa.Lib35
