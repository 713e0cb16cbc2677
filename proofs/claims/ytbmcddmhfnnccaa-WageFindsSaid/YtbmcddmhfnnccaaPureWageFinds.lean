/- Find returns the first wage type with a code, as the reference does: for lists of any content. -/
import Derived.Test.YtbmcddmhfnnccaaDeckLib0
import Derived.Test.YtbmcddmhfnnccaaLib26
import Derived.Test.YtbmcddmhfnnccaaQx4
import Derived.Test.YtbmcddmhfnnccaaQx7
import Derived.Test.YtbmcddmhfnnccaaQx9
namespace Go.Proofs.Ytbmcddmhfnnccaa.Pure
open Go.RowKit Go.Proofs.Ytbmcddmhfnnccaa.Q Go.Proofs.YtbmcddmhfnnccaaW.PrintWords Go.Proofs.YtbmcddmhfnnccaaW.PrintLast Go.Proofs.Ytbmcddmhfnnccaa.MapKit Go.Proofs.Ytbmcddmhfnnccaa.ListKit Go.Proofs.Ytbmcddmhfnnccaa.DeckLib Go.Proofs.Ytbmcddmhfnnccaa.Lib17 Go.Proofs.Ytbmcddmhfnnccaa.Lib26
theorem shortW_yes (l : List Wg) : ∃ b, Ev (fun k => payrolllaw26_short.f k l) b ∧ (b = true → l.length ≤ 70) := by
  unfold payrolllaw26_short.f
  by_cases h : (l.length : Int) > 70
  · exact ⟨false, Ev.congr (fun k => if_pos h) (Ev.now _), fun e => by cases e⟩
  · have : ∀ (suf pre : List Wg), l = pre ++ suf → ∃ b, Ev (fun k => payrolllaw26_short.l0 k l (pre.length : Int)) b := by
      intro suf
      induction suf with
      | nil =>
        intro pre h
        refine ⟨true, Ev.step (f := fun _ => some true) (fun k => ?_) (Ev.now _)⟩
        simp only [payrolllaw26_short.l0]
        rw [if_neg (by rw [h]; simp)]
      | cons x suf ih =>
        intro pre h
        obtain ⟨b, hb⟩ := ih (pre ++ [x]) (by rw [h]; simp)
        have hln : l.length = pre.length + suf.length + 1 := by rw [h]; simp; omega
        have hrd : rd_T31 l (pre.length : Int) = x := by rw [h]; exact rdW_mid pre x suf
        by_cases c : (x.f0.size : Int) > 60
        · refine ⟨false, Ev.step (f := fun _ => some false) (fun k => ?_) (Ev.now _)⟩
          simp only [payrolllaw26_short.l0]
          rw [if_pos (by omega), if_pos (by omega), hrd, if_pos c]
        · refine ⟨b, Ev.step (fun k => ?_) hb⟩
          simp only [payrolllaw26_short.l0]
          rw [if_pos (by omega), if_pos (by omega), hrd, if_neg c, wrapid (x := (pre.length : Int) + 1) (by omega) (by omega), lenW]
    obtain ⟨b, hb⟩ := this l [] rfl
    exact ⟨b, Ev.congr (fun k => if_neg h) hb, fun _ => by omega⟩
theorem WageFinds : ∀ (l : List Wg) (c : ByteArray) (n : Int), ∃ k, payrolllaw26_WageFinds.f k l c n = some true := by
  intro l c n
  refine Ev.rounds (g := fun k => payrolllaw26_WageFinds.f k l c n) ?_
  unfold payrolllaw26_WageFinds.f
  obtain ⟨b, hb, hl⟩ := shortW_yes l
  refine Ev.bind hb ?_
  cases b with
  | false => exact Ev.congr (fun k => if_neg (by simp)) (Ev.bind awake_ev (Ev.now _))
  | true =>
    have hl := hl rfl
    refine Ev.congr (fun k => if_pos rfl) ?_
    by_cases h1 : (c.size : Int) > 60
    · exact Ev.congr (fun k => if_pos h1) (Ev.bind awake_ev (Ev.now _))
    refine Ev.congr (fun k => if_neg h1) ?_
    have fin : ∀ s : ByteArray, Ev (fun k => (wage_Find.f k l s).bind fun bt205 => ((payrollref26_Find.f k l s).bind fun bt213 => (if (bt205.1.toList == bt213.1.toList && (bt205.2.1 == bt213.2.1 && (bt205.2.2.1 == bt213.2.2.1 && (bt205.2.2.2.1 == bt213.2.2.2.1 && (bt205.2.2.2.2.1 == bt213.2.2.2.2.1 && (bt205.2.2.2.2.2.1 == bt213.2.2.2.2.2.1)))))) = true then (if (bt205.2.2.2.2.2.2 == bt213.2.2.2.2.2.2) = true then ((payrolllaw26_awake.f k).bind fun t221 => (some t221)) else (none)) else (none)))) true := by
      intro s
      refine Ev.bind (find_ev l s (by omega)) (Ev.bind (rfind_ev l s (by omega)) ?_)
      exact Ev.congr (fun k => (if_pos (by simp)).trans (if_pos (by simp))) (Ev.bind awake_ev (Ev.now _))
    by_cases h2 : (l.length : Int) > 0
    · refine Ev.congr (fun k => if_pos h2) ?_
      by_cases h3 : (Go.bits .and .i64 n 1) = 1
      · refine Ev.congr (fun k => if_pos h3) ?_
        obtain ⟨t, ht, t0, t1⟩ := mod_ok (wrap64 (Int.tdiv n 2)) (l.length : Int) (by omega) (by omega)
        have ht' : paygen_Mod.f (wrap64 (Int.tdiv n 2)) (l.length : Int) = some t := ht
        rw [ht']
        simp only [Option.bind_some]
        exact Ev.congr (fun k => (if_pos t0).trans (if_pos t1)) (fin _)
      · exact Ev.congr (fun k => if_neg h3) (fin c)
    · exact Ev.congr (fun k => if_neg h2) (fin c)
end Go.Proofs.Ytbmcddmhfnnccaa.Pure
