/- Postings of differences: package delta and its reference answer the same; draws of lists of lines. Plain Lean over the printed functions. -/
import Derived.Test.YtdlljjglmcpniaaLib34c
import Derived.Test.YtdlljjglmcpniaaDeckLines
import Derived.Test.YtdlljjglmcpniaaLib37
import Derived.Test.YtdlljjglmcpniaaQx5
import Derived.Test.YtdlljjglmcpniaaQx0
import Derived.Test.YtdlljjglmcpniaaQx2
import Derived.Test.YtdlljjglmcpniaaQx6
import Derived.Test.YtdlljjglmcpniaaQx3
namespace Go.Proofs.Ytdlljjglmcpniaa.Lib37
open Go.RowKit Go.Proofs.Ytdlljjglmcpniaa.Q Go.Proofs.YtdlljjglmcpniaaW.PrintWords Go.Proofs.YtdlljjglmcpniaaW.PrintLast Go.Proofs.Ytdlljjglmcpniaa.MapKit Go.Proofs.Ytdlljjglmcpniaa.ListKit Go.Proofs.Ytdlljjglmcpniaa.Lib17 Go.Proofs.Ytdlljjglmcpniaa.Lib34 Go.Proofs.Ytdlljjglmcpniaa.DeckLib
abbrev Ps := S58
def postL (a b c : Int) (l : List Ln) : List Ps := l.map fun x => ⟨a, b, c, x⟩
def postSpec (a b c : Int) (l0 l1 : List Ln) : List Ps × Int :=
  if (compareSpec l0 l1).2 = 0 then (if 1 ≤ a ∧ a ≤ 256 ∧ 1 ≤ b ∧ b ≤ 2147483647 ∧ 0 ≤ c ∧ c ≤ 84005 then (postL a b c (compareSpec l0 l1).1, 0) else ([], 2)) else ([], (compareSpec l0 l1).2)
theorem post_loop (a b c : Int) (l : List Ln) (hlen : l.length ≤ 1000000) : ∀ (suf pre : List Ln) (acc : List Ps), l = pre ++ suf → acc.length ≤ pre.length → Ev (fun k => delta_Postings.l0 k a b c acc l (l.length : Int) (pre.length : Int)) (acc ++ postL a b c suf, 0) := by
  intro suf
  induction suf with
  | nil =>
    intro pre acc h hacc
    refine Ev.step (f := fun _ => some (acc, 0)) (fun k => ?_) (by rw [show postL a b c [] = [] from rfl, List.append_nil]; exact Ev.now _)
    simp only [delta_Postings.l0]
    rw [if_neg (by rw [h]; simp)]
  | cons x suf ih =>
    intro pre acc h hacc
    have h2 := ih (pre ++ [x]) (acc ++ [⟨a, b, c, x⟩]) (by rw [h]; simp) (by simp; omega)
    have hln : l.length = pre.length + suf.length + 1 := by rw [h]; simp; omega
    have hrd : rd_T56 l (pre.length : Int) = x := by rw [h]; exact rdL_mid pre x suf
    rw [List.append_assoc, List.singleton_append, show (⟨a, b, c, x⟩ : Ps) :: postL a b c suf = postL a b c (x :: suf) from rfl] at h2
    refine Ev.step (fun k => ?_) h2
    simp only [delta_Postings.l0]
    rw [if_pos (by omega), if_pos (by omega), if_pos (by omega), if_pos (by omega), hrd, wrapid (x := (pre.length : Int) + 1) (by omega) (by omega), lenL]
theorem post_ev (a b c : Int) (l0 l1 : List Ln) : Ev (fun k => delta_Postings.f k a b c l0 l1) (postSpec a b c l0 l1) := by
  unfold delta_Postings.f postSpec
  refine Ev.bind (compare_ev l0 l1) ?_
  by_cases h : (compareSpec l0 l1).2 = 0
  · rw [if_pos h]
    refine Ev.congr (fun k => if_pos h) ?_
    have hlen := compareSpec_len l0 l1
    obtain ⟨l, hl⟩ : ∃ l, l = (compareSpec l0 l1).1 := ⟨_, rfl⟩
    rw [← hl] at hlen ⊢
    have hbad : Ev (fun k => delta_Postings.j0 k a b c l true) ([], 2) := Ev.step (f := fun _ => some ([], 2)) (fun k => by simp [delta_Postings.j0]) (Ev.now _)
    by_cases hok : 1 ≤ a ∧ a ≤ 256 ∧ 1 ≤ b ∧ b ≤ 2147483647 ∧ 0 ≤ c ∧ c ≤ 84005
    · rw [if_pos hok]
      refine Ev.congr (f := fun k => delta_Postings.j0 k a b c l false) (fun k => ?_) ?_
      · rw [if_neg (by omega), if_neg (by omega), if_neg (by omega), if_neg (by omega), if_neg (by omega), decide_eq_false (by omega)]
      · have := post_loop a b c l (by omega) l [] [] rfl (Nat.le_refl _)
        exact Ev.step (fun k => by simp [delta_Postings.j0]) this
    · rw [if_neg hok]
      refine Ev.congr (f := fun k => delta_Postings.j0 k a b c l true) (fun k => ?_) hbad
      repeat' split
      all_goals first | rfl | (rw [decide_eq_true (by omega)])
  · rw [if_neg h]; exact Ev.congr (fun k => if_neg h) (Ev.now _)
theorem rdP_mid (pre : List Ps) (x : Ps) (suf : List Ps) : rd_T58 (pre ++ x :: suf) (pre.length : Int) = x := by
  simp [rd_T58, List.getD_eq_getElem?_getD]
theorem lenP (pre : List Ps) (x : Ps) : ((pre ++ [x]).length : Int) = (pre.length : Int) + 1 := by simp
theorem awake_ev : Ev (fun k => payrolllaw37_awake.f k) true := ⟨200, fun k hk => awake_ok k hk⟩
theorem lines_loop (l : List Int) : ∀ (j : Nat) (acc : List Ln) (at_ : Int), j ≤ 1000 → acc.length + j ≤ 2000 → 0 ≤ at_ → at_ + 5 * j ≤ 1000000 → SmallL 600000 acc →
    ∃ r at2, Ev (fun k => paygen_Deck_Lines.l0 k acc (j : Int) l at_) (r, at2) ∧ SmallL 600000 r ∧ r.length ≤ acc.length + j ∧ at_ ≤ at2 ∧ at2 ≤ at_ + 5 * j := by
  intro j
  induction j with
  | zero =>
    intro acc at_ _ _ h0 _ hs
    refine ⟨acc, at_, Ev.step (f := fun _ => some (acc, at_)) (fun k => ?_) (Ev.now _), hs, by omega, by omega, by omega⟩
    simp only [paygen_Deck_Lines.l0]
    rw [if_neg (by omega)]
  | succ j ih =>
    intro acc at_ hj hl h0 h1 hs
    obtain ⟨a, s, n, at2, hn, hf, hne, n0, n1, g0, g1⟩ := line_ok l at_ (by omega) (by omega)
    obtain ⟨r, at3, k1, k2, k3, k4, k5⟩ := ih (acc ++ [⟨a, s, n⟩]) at2 (by omega) (by simp; omega) (by omega) (by omega) (hs.append fun x hx => by rw [List.mem_singleton] at hx; subst hx; exact ⟨hf, n0, n1⟩)
    refine ⟨r, at3, Ev.step (fun k => ?_) k1, k2, by simp at k3; omega, by omega, by omega⟩
    simp only [paygen_Deck_Lines.l0]
    rw [if_pos (by omega), hn, Option.bind_some, if_pos (by omega), wrapid (x := ((j + 1 : Nat) : Int) - 1) (by omega) (by omega), show ((j + 1 : Nat) : Int) - 1 = (j : Int) by omega]
theorem lines_ok (l : List Int) (n : Nat) (hn : n ≤ 100) (at_ : Int) (h0 : 0 ≤ at_) (h1 : at_ ≤ 500000) : ∃ r at2, Ev (fun k => paygen_Deck_Lines.f k l at_ (n : Int)) (r, at2) ∧ SmallL 600000 r ∧ r.length ≤ n ∧ at_ ≤ at2 ∧ at2 ≤ at_ + 501 := by
  unfold paygen_Deck_Lines.f
  rw [wrapid (x := (n : Int) + 1) (by omega) (by omega)]
  obtain ⟨j, hj, j0, j1⟩ := next_ok l at_ ((n : Int) + 1) h0 (by omega) (by omega) (by omega)
  rw [hj]
  simp only [Option.bind_some]
  obtain ⟨j, rfl⟩ := Int.eq_ofNat_of_zero_le j0
  obtain ⟨r, at2, k1, k2, k3, k4, k5⟩ := lines_loop l j [] (at_ + 1) (by omega) (by simp; omega) (by omega) (by omega) (fun x hx => by cases hx)
  exact ⟨r, at2, k1, k2, by simp at k3; omega, by omega, by omega⟩
end Go.Proofs.Ytdlljjglmcpniaa.Lib37
