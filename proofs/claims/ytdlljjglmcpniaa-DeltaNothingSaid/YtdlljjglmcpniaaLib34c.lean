/- Differences of lines: payslip.Compare and its reference answer the same. Plain Lean over the printed functions. -/
import Derived.Test.YtdlljjglmcpniaaLib34t
import Derived.Test.YtdlljjglmcpniaaQx4
import Derived.Test.YtdlljjglmcpniaaQx9
namespace Go.Proofs.Ytdlljjglmcpniaa.Lib34
open Go.RowKit Go.Proofs.Ytdlljjglmcpniaa.Q Go.Proofs.YtdlljjglmcpniaaW.PrintWords Go.Proofs.YtdlljjglmcpniaaW.PrintLast Go.Proofs.Ytdlljjglmcpniaa.MapKit Go.Proofs.Ytdlljjglmcpniaa.ListKit Go.Proofs.Ytdlljjglmcpniaa.Lib17
def compareSpec (l0 l1 : List Ln) : List Ln × Int := if (sumsSpec l0).2 = 0 then (if (sumsSpec l1).2 = 0 then cmpPure (sumsSpec l1).1 (sumsSpec l0).1 else ([], (sumsSpec l1).2)) else ([], (sumsSpec l0).2)
theorem compare_ev (l0 l1 : List Ln) : Ev (fun k => payslip_Compare.f k l0 l1) (compareSpec l0 l1) := by
  unfold payslip_Compare.f compareSpec
  refine Ev.bind (sums_ev l0) ?_
  by_cases h : (sumsSpec l0).2 = 0
  · rw [if_pos h]
    refine Ev.congr (fun k => if_pos h) (Ev.bind (sums_ev l1) ?_)
    by_cases h2 : (sumsSpec l1).2 = 0
    · rw [if_pos h2, if_pos h2]; exact Ev.now _
    · rw [if_neg h2, if_neg h2]; exact Ev.now _
  · rw [if_neg h]; exact Ev.congr (fun k => if_neg h) (Ev.now _)
theorem sums_ok {l : List Ln} (h : (sumsSpec l).2 = 0) : sumsSpec l = (sumsL l, 0) ∧ l.length ≤ 65536 ∧ (sumsL l).all (fun p => tot p.2) = true ∧ ∀ x ∈ l, formL x = true := by
  unfold sumsSpec at h ⊢
  by_cases h1 : (l.length : Int) > 65536
  · rw [if_pos h1] at h; exact absurd h (by simp)
  · rw [if_neg h1] at h ⊢
    by_cases h2 : l.all formL = true
    · rw [if_pos h2] at h ⊢
      by_cases h3 : (sumsL l).all (fun p => tot p.2) = true
      · rw [if_pos h3]; exact ⟨rfl, by omega, h3, List.all_eq_true.1 h2⟩
      · rw [if_neg h3] at h; exact absurd h (by simp)
    · rw [if_neg h2] at h; exact absurd h (by simp)
theorem tot_get {m : List (Pr Int Str × Int)} (h : m.all (fun p => tot p.2) = true) (e : Pr Int Str) : tot ((m.lookup e).getD 0) = true := by
  cases hl : m.lookup e with
  | none => rfl
  | some v => exact List.all_eq_true.1 h _ (mem_of_lookup hl)
theorem all_tot {a b : List (Pr Int Str × Int)} (hb : (b.map (·.1)).Nodup) (h : ∀ e, (a.lookup e).getD 0 = (b.lookup e).getD 0) (ha : a.all (fun p => tot p.2) = true) : b.all (fun p => tot p.2) = true := by
  rw [List.all_eq_true]
  rintro ⟨k, v⟩ hp
  have h1 := tot_get ha k
  rw [h, lookup_of_mem hb hp] at h1
  exact h1
theorem tot_bounds {n : Int} (h : tot n = true) : -1000000000000 ≤ n ∧ n ≤ 1000000000000 := of_decide_eq_true h
def trimS (m : List (Pr Int Str × Int)) : List Ln × Int := if m.all (fun p => tot p.2) = true then (linesL m, 0) else ([], 4)
theorem trimS_ext {a b : List (Pr Int Str × Int)} (ha : Asc ltK a) (hb : Asc ltK b) (h : ∀ e, (a.lookup e).getD 0 = (b.lookup e).getD 0) : trimS a = trimS b := by
  unfold trimS
  by_cases c : a.all (fun p => tot p.2) = true
  · rw [if_pos c, if_pos (all_tot (hb.nodup orderK) h c), show linesL a = linesL b from keep_ext orderK toL ha hb h]
  · rw [if_neg c, if_neg (fun c2 => c (all_tot (ha.nodup orderK) (fun e => (h e).symm) c2))]
def negL (x : Ln) : Ln := ⟨x.f0, x.f1, wrap64 (-x.f2)⟩
theorem sum_neg : ∀ (l : List Ln), (∀ x ∈ l, tot x.f2 = true) → ∀ e, sumG keyL amtL (l.map negL) e = -sumG keyL amtL l e
  | [], _, _ => rfl
  | x :: r, h, e => by
    have ih := sum_neg r (fun y hy => h y (List.mem_cons_of_mem _ hy)) e
    have hx := tot_bounds (h x List.mem_cons_self)
    rw [List.map_cons, sumG_cons, sumG_cons, ih]
    have hk : keyL (negL x) = keyL x := rfl
    have ha : amtL (negL x) = -amtL x := wrapid (by omega) (by omega)
    rw [hk, ha]
    by_cases c : keyL x = e
    · rw [if_pos c, if_pos c]; omega
    · rw [if_neg c, if_neg c]; omega
theorem lines_tot {m : List (Pr Int Str × Int)} (h : m.all (fun p => tot p.2) = true) : ∀ x ∈ linesL m, tot x.f2 = true := by
  intro x hx
  obtain ⟨p, hp, rfl⟩ := List.mem_map.1 hx
  exact List.all_eq_true.1 h p (List.mem_filter.1 hp).1
theorem sub_get {d m : List (Pr Int Str × Int)} (hd : d.all (fun p => tot p.2) = true) (hm : (m.map (·.1)).Nodup) (e : Pr Int Str) : ((subG ltK d m).lookup e).getD 0 = wrap64 ((d.lookup e).getD 0 - (m.lookup e).getD 0) := by
  rw [subG_lookup m d hm]
  have hb := tot_bounds (tot_get hd e)
  cases m.lookup e with
  | some n => rfl
  | none =>
    show (d.lookup e).getD 0 = wrap64 ((d.lookup e).getD 0 - 0)
    rw [Int.sub_zero, wrapid (by omega) (by omega)]
def refMap (d m : List (Pr Int Str × Int)) : List (Pr Int Str × Int) := addsG ltK keyL amtL (d.filter fun p => decide (p.2 ≠ 0)) ((linesL m).map negL)
theorem ref_asc {d : List (Pr Int Str × Int)} (hd : Asc ltK d) (m : List (Pr Int Str × Int)) : Asc ltK (refMap d m) := addsG_asc orderK _ _ (List.Pairwise.filter _ hd)
theorem ref_get {d m : List (Pr Int Str × Int)} (hd : d.all (fun p => tot p.2) = true) (ha : Asc ltK d) (hm : m.all (fun p => tot p.2) = true) (hn : (m.map (·.1)).Nodup) (e : Pr Int Str) : ((refMap d m).lookup e).getD 0 = wrap64 ((d.lookup e).getD 0 - (m.lookup e).getD 0) := by
  have hs := sum_neg (linesL m) (lines_tot hm) e
  rw [sum_lines m hn] at hs
  have hk : ((d.filter fun p => decide (p.2 ≠ 0)).lookup e).getD 0 = (d.lookup e).getD 0 := by
    rw [lookup_kept d (ha.nodup orderK)]
    cases d.lookup e with
    | none => rfl
    | some v =>
      by_cases c : v = 0
      · subst c; rfl
      · simp [c]
  have hb := tot_bounds (tot_get hd e)
  unfold refMap
  rw [addsG_lookup]
  by_cases h : hasG keyL ((linesL m).map negL) e = true
  · rw [if_pos h, Option.getD_some, hk, hs, ← Int.sub_eq_add_neg]
  · rw [if_neg h, hk]
    have hz : sumG keyL amtL ((linesL m).map negL) e = 0 := sumG_none _ _ (by simpa using h)
    rw [show (m.lookup e).getD 0 = 0 by omega, Int.sub_zero, wrapid (by omega) (by omega)]
theorem rcompare_loop (d m : List (Pr Int Str × Int)) (ha : Asc ltK d) (hl : d.length + m.length ≤ 200000) (hm : m.all (fun p => tot p.2) = true) : ∀ (suf pre : List Ln), linesL m = pre ++ suf →
    Ev (fun k => payrollref34_Compare.l0 k (linesL m) (toLs (addsG ltK keyL amtL (d.filter fun p => decide (p.2 ≠ 0)) (pre.map negL))) (pre.length : Int)) (trimS (refMap d m)) := by
  have hlm : (linesL m).length ≤ m.length := keepG_len _ _
  have hld : (d.filter fun p => decide (p.2 ≠ 0)).length ≤ d.length := List.length_filter_le _ _
  intro suf
  induction suf with
  | nil =>
    intro pre h
    rw [List.append_nil] at h
    subst h
    have hlen : (refMap d m).length ≤ 900000 := by
      have := addsG_len (lt := ltK) (f := keyL) (g := amtL) ((linesL m).map negL) (d.filter fun p => decide (p.2 ≠ 0))
      rw [List.length_map] at this
      unfold refMap
      omega
    refine Ev.step (f := fun k => (payrollref34_trim.f k (toLs (refMap d m))).bind fun bt272 => (if bt272.2 = true then (some (bt272.1, 0)) else (some (([] : List Ln), 4)))) (fun k => ?_) (Ev.bind (rtrim_ev _ hlen) ?_)
    · simp only [payrollref34_Compare.l0]
      rw [if_neg (by omega)]
      rfl
    · unfold trimS
      by_cases c : (refMap d m).all (fun p => tot p.2) = true
      · rw [if_pos c, if_pos c]; exact Ev.now _
      · rw [if_neg c, if_neg c]; exact Ev.now _
  | cons x suf ih =>
    intro pre h
    have h2 := ih (pre ++ [x]) (by rw [h]; simp)
    have hlen : (linesL m).length = pre.length + suf.length + 1 := by rw [h]; simp; omega
    have hrd : rd_T56 (linesL m) (pre.length : Int) = x := by rw [h]; exact rdL_mid pre x suf
    have hal := addsG_len (lt := ltK) (f := keyL) (g := amtL) (pre.map negL) (d.filter fun p => decide (p.2 ≠ 0))
    rw [List.length_map] at hal
    have hput := rput_ev (addsG ltK keyL amtL (d.filter fun p => decide (p.2 ≠ 0)) (pre.map negL)) (addsG_asc orderK _ _ (List.Pairwise.filter _ ha)) (by omega) (negL x) (by
      show -9223372036854775808 ≤ wrap64 (-x.f2) ∧ wrap64 (-x.f2) ≤ 9223372036854775807
      have := tot_bounds (lines_tot hm x (by rw [h]; simp))
      rw [wrapid (by omega) (by omega)]
      omega)
    rw [List.map_append, List.map_cons, List.map_nil, addsG_snoc] at h2
    refine Ev.step (f := fun k => (payrollref34_put.f k (toLs (addsG ltK keyL amtL (d.filter fun p => decide (p.2 ≠ 0)) (pre.map negL))) x.f0 x.f1 (wrap64 (-x.f2))).bind fun t269 => (payrollref34_Compare.l0 k (linesL m) t269 ((pre ++ [x]).length : Int))) (fun k => ?_) (Ev.bind hput h2)
    simp only [payrollref34_Compare.l0]
    rw [if_pos (by omega), if_pos (by omega), hrd, wrapid (x := (pre.length : Int) + 1) (by omega) (by omega), lenL]
theorem rcompare_ev (l0 l1 : List Ln) : Ev (fun k => payrollref34_Compare.f k l0 l1) (compareSpec l0 l1) := by
  unfold payrollref34_Compare.f compareSpec
  refine Ev.bind (rmerge_ev l0) ?_
  by_cases h : (sumsSpec l0).2 = 0
  · obtain ⟨e0, n0, t0, _⟩ := sums_ok h
    have m0 : mergeSpec l0 = (linesL (sumsL l0), 0) := by unfold mergeSpec; rw [if_pos h, e0]
    rw [if_pos h, m0]
    refine Ev.congr (fun k => if_pos rfl) (Ev.bind (rmerge_ev l1) ?_)
    by_cases h2 : (sumsSpec l1).2 = 0
    · obtain ⟨e1, n1, t1, _⟩ := sums_ok h2
      have m1 : mergeSpec l1 = (linesL (sumsL l1), 0) := by unfold mergeSpec; rw [if_pos h2, e1]
      rw [if_pos h2, m1, e0, e1]
      refine Ev.congr (fun k => if_pos rfl) ?_
      have h3 := rcompare_loop (sumsL l1) (sumsL l0) (sumsL_asc l1) (by have := sumsL_len l0; have := sumsL_len l1; omega) t0 (linesL (sumsL l0)) [] rfl
      have h4 : cmpPure (sumsL l1) (sumsL l0) = trimS (refMap (sumsL l1) (sumsL l0)) := by
        have : cmpPure (sumsL l1) (sumsL l0) = trimS (subG ltK (sumsL l1) (sumsL l0)) := rfl
        rw [this]
        have hn := (sumsL_asc l0).nodup orderK
        exact trimS_ext (subG_asc orderK _ _ (sumsL_asc l1)) (ref_asc (sumsL_asc l1) _) fun e => by rw [sub_get t1 hn, ref_get t1 (sumsL_asc l1) t0 hn]
      show Ev _ (cmpPure (sumsL l1) (sumsL l0))
      rw [h4]
      exact h3
    · have m1 : mergeSpec l1 = ([], (sumsSpec l1).2) := by unfold mergeSpec; rw [if_neg h2]
      rw [if_neg h2, m1]
      exact Ev.congr (fun k => if_neg h2) (Ev.now _)
  · have m0 : mergeSpec l0 = ([], (sumsSpec l0).2) := by unfold mergeSpec; rw [if_neg h]
    rw [if_neg h, m0]
    exact Ev.congr (fun k => if_neg h) (Ev.now _)
theorem cmp_len (d m : List (Pr Int Str × Int)) : (cmpPure d m).1.length ≤ d.length + m.length := by
  unfold cmpPure
  split
  · exact Nat.le_trans (keepG_len _ _) (subG_len m d)
  · simp
theorem compareSpec_len (l0 l1 : List Ln) : (compareSpec l0 l1).1.length ≤ 200000 := by
  unfold compareSpec
  by_cases h : (sumsSpec l0).2 = 0
  · rw [if_pos h]
    by_cases h2 : (sumsSpec l1).2 = 0
    · obtain ⟨e0, n0, _, _⟩ := sums_ok h
      obtain ⟨e1, n1, _, _⟩ := sums_ok h2
      rw [if_pos h2, e0, e1]
      have := cmp_len (sumsL l1) (sumsL l0)
      have := sumsL_len l0
      have := sumsL_len l1
      show (cmpPure (sumsL l1) (sumsL l0)).1.length ≤ 200000
      omega
    · rw [if_neg h2]; simp
  · rw [if_neg h]; simp
/-- No difference: the sums by keys are the same. -/
theorem compare_zero {c : Int} (h0 : 0 ≤ c) {a b : List Ln} (ha : SmallL c a) (hb : SmallL c b) (la : c * a.length ≤ 1000000000000) (lb : c * b.length ≤ 1000000000000) (na : a.length ≤ 65536) (nb : b.length ≤ 65536)
    (h : ∀ e, sumG keyL amtL a e = sumG keyL amtL b e) : compareSpec a b = ([], 0) := by
  have sm : ∀ l : List Ln, SmallL c l → c * l.length ≤ 1000000000000 → l.length ≤ 65536 → sumsSpec l = (sumsL l, 0) := fun l h1 h2 h3 => by
    unfold sumsSpec
    rw [if_neg (by omega), if_pos (List.all_eq_true.2 fun x hx => (h1 x hx).1), if_pos (sums_small h0 l h1 h2)]
  have tb := sums_small h0 b hb lb
  have hn := (sumsL_asc a).nodup orderK
  have hz : ∀ p ∈ subG ltK (sumsL b) (sumsL a), p.2 = 0 := by
    rintro ⟨k, v⟩ hp
    have h1 := sub_get tb hn k
    rw [lookup_of_mem ((subG_asc orderK _ _ (sumsL_asc b)).nodup orderK) hp, sums_getD, sums_getD, h] at h1
    have h2 : v = wrap64 (wrap64 (sumG keyL amtL b k) - wrap64 (sumG keyL amtL b k)) := h1
    rw [Int.sub_self, wrapid (by omega) (by omega)] at h2
    exact h2
  unfold compareSpec
  rw [sm a ha la na, sm b hb lb nb, if_pos rfl, if_pos rfl]
  show cmpPure (sumsL b) (sumsL a) = ([], 0)
  unfold cmpPure
  rw [if_pos (List.all_eq_true.2 fun p hp => by rw [hz p hp]; rfl)]
  congr 1
  unfold linesL keepG
  rw [List.filter_eq_nil_iff.2 fun p hp => by simp [hz p hp]]
  rfl
end Go.Proofs.Ytdlljjglmcpniaa.Lib34
