/- Differences of lines: payslip.Compare and its reference answer the same. Plain Lean over the printed functions. -/
import Derived.Test.YtdlljjglmcpniaaLib34t
import Derived.Test.YtdlljjglmcpniaaQx4
import Derived.Test.YtdlljjglmcpniaaQx0
import Derived.Test.YtdlljjglmcpniaaQx6
namespace Go.Proofs.Ytdlljjglmcpniaa.Lib34
open Go.RowKit Go.Proofs.Ytdlljjglmcpniaa.Q Go.Proofs.YtdlljjglmcpniaaW.PrintWords Go.Proofs.YtdlljjglmcpniaaW.PrintLast Go.Proofs.Ytdlljjglmcpniaa.MapKit Go.Proofs.Ytdlljjglmcpniaa.ListKit Go.Proofs.Ytdlljjglmcpniaa.Lib17
def compareSpec (l0 l1 : List Ln) : List Ln × Int := if (sumsSpec l0).2 = 0 then (if (sumsSpec l1).2 = 0 then cmpPure (sumsSpec l1).1 (sumsSpec l0).1 else ([], (sumsSpec l1).2)) else ([], (sumsSpec l0).2)
theorem compare_ev (l0 l1 : List Ln) : Ev (fun k => payslip_Compare.f k l0 l1) (compareSpec l0 l1) := by
  unfold payslip_Compare.f compareSpec
  refine Ev.bind (sums_ev l0) ?_
  by_cases h : (sumsSpec l0).2 = 0
  · rw [if_pos h]
    refine Ev.congr (fun k => if_pos h) (Ev.bind (sums_ev l1) ?_)
    by_cases h2 : (sumsSpec l1).2 = 0
    · rw [if_pos h2, if_pos h2]; exact Ev.now _
    · rw [if_neg h2, if_neg h2]; exact Ev.now _
  · rw [if_neg h]; exact Ev.congr (fun k => if_neg h) (Ev.now _)
theorem sums_ok {l : List Ln} (h : (sumsSpec l).2 = 0) : sumsSpec l = (sumsL l, 0) ∧ l.length ≤ 65536 ∧ (sumsL l).all (fun p => tot p.2) = true ∧ ∀ x ∈ l, formL x = true := by
  unfold sumsSpec at h ⊢
  by_cases h1 : (l.length : Int) > 65536
  · rw [if_pos h1] at h; exact absurd h (by simp)
  · rw [if_neg h1] at h ⊢
    by_cases h2 : l.all formL = true
    · rw [if_pos h2] at h ⊢
      by_cases h3 : (sumsL l).all (fun p => tot p.2) = true
      · rw [if_pos h3]; exact ⟨rfl, by omega, h3, List.all_eq_true.1 h2⟩
      · rw [if_neg h3] at h; exact absurd h (by simp)
    · rw [if_neg h2] at h; exact absurd h (by simp)
theorem tot_get {m : List (Pr Int Str × Int)} (h : m.all (fun p => tot p.2) = true) (e : Pr Int Str) : tot ((m.lookup e).getD 0) = true := by
  cases hl : m.lookup e with
  | none => rfl
  | some v => exact List.all_eq_true.1 h _ (mem_of_lookup hl)
theorem tot_bounds {n : Int} (h : tot n = true) : -1000000000000 ≤ n ∧ n ≤ 1000000000000 := of_decide_eq_true h
def trimS (m : List (Pr Int Str × Int)) : List Ln × Int := if m.all (fun p => tot p.2) = true then (linesL m, 0) else ([], 4)
def negL (x : Ln) : Ln := ⟨x.f0, x.f1, wrap64 (-x.f2)⟩
theorem sub_get {d m : List (Pr Int Str × Int)} (hd : d.all (fun p => tot p.2) = true) (hm : (m.map (·.1)).Nodup) (e : Pr Int Str) : ((subG ltK d m).lookup e).getD 0 = wrap64 ((d.lookup e).getD 0 - (m.lookup e).getD 0) := by
  rw [subG_lookup m d hm]
  have hb := tot_bounds (tot_get hd e)
  cases m.lookup e with
  | some n => rfl
  | none =>
    show (d.lookup e).getD 0 = wrap64 ((d.lookup e).getD 0 - 0)
    rw [Int.sub_zero, wrapid (by omega) (by omega)]
def refMap (d m : List (Pr Int Str × Int)) : List (Pr Int Str × Int) := addsG ltK keyL amtL (d.filter fun p => decide (p.2 ≠ 0)) ((linesL m).map negL)
theorem cmp_len (d m : List (Pr Int Str × Int)) : (cmpPure d m).1.length ≤ d.length + m.length := by
  unfold cmpPure
  split
  · exact Nat.le_trans (keepG_len _ _) (subG_len m d)
  · simp
theorem compareSpec_len (l0 l1 : List Ln) : (compareSpec l0 l1).1.length ≤ 200000 := by
  unfold compareSpec
  by_cases h : (sumsSpec l0).2 = 0
  · rw [if_pos h]
    by_cases h2 : (sumsSpec l1).2 = 0
    · obtain ⟨e0, n0, _, _⟩ := sums_ok h
      obtain ⟨e1, n1, _, _⟩ := sums_ok h2
      rw [if_pos h2, e0, e1]
      have := cmp_len (sumsL l1) (sumsL l0)
      have := sumsL_len l0
      have := sumsL_len l1
      show (cmpPure (sumsL l1) (sumsL l0)).1.length ≤ 200000
      omega
    · rw [if_neg h2]; simp
  · rw [if_neg h]; simp
end Go.Proofs.Ytdlljjglmcpniaa.Lib34
