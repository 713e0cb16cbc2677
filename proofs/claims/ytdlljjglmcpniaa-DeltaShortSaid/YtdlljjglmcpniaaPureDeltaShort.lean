/- Going from one result to another one directly posts the same sums as going through a third one: for all drawn lines. -/
import Derived.Test.YtdlljjglmcpniaaLib37p
import Derived.Test.YtdlljjglmcpniaaLib35d
import Derived.Test.YtdlljjglmcpniaaQx20
namespace Go.Proofs.Ytdlljjglmcpniaa.Pure
open Go.RowKit Go.Proofs.Ytdlljjglmcpniaa.Q Go.Proofs.YtdlljjglmcpniaaW.PrintWords Go.Proofs.YtdlljjglmcpniaaW.PrintLast Go.Proofs.Ytdlljjglmcpniaa.MapKit Go.Proofs.Ytdlljjglmcpniaa.ListKit Go.Proofs.Ytdlljjglmcpniaa.DeckLib Go.Proofs.Ytdlljjglmcpniaa.Lib17 Go.Proofs.Ytdlljjglmcpniaa.Lib34 Go.Proofs.Ytdlljjglmcpniaa.Lib37
open Go.Proofs.Ytdlljjglmcpniaa.Lib35 (validP bookB runsUp okAfter addSpec resultSpec)
/-- The differences of two lists of lines. -/
def diffL (a b : List Ln) : List Ln := linesL (subG ltK (sumsL b) (sumsL a))
theorem sums_spec {l : List Ln} (h : SmallL 600000 l) (hl : l.length ≤ 10) : sumsSpec l = (sumsL l, 0) := by
  unfold sumsSpec
  rw [if_neg (by omega), if_pos (List.all_eq_true.2 fun x hx => (h x hx).1), if_pos (sums_small (c := 600000) (by omega) l h (by omega))]
theorem sub_val {a b : List Ln} (ha : SmallL 600000 a) (hb : SmallL 600000 b) (la : a.length ≤ 10) (lb : b.length ≤ 10) (e : Pr Int Str) : ((subG ltK (sumsL b) (sumsL a)).lookup e).getD 0 = sumG keyL amtL b e - sumG keyL amtL a e := by
  have h1 := sumG_small (c := 600000) (by omega) e a ha
  have h2 := sumG_small (c := 600000) (by omega) e b hb
  rw [sub_get (sums_small (c := 600000) (by omega) b hb (by omega)) ((sumsL_asc a).nodup orderK), sums_getD, sums_getD, wrapid (x := sumG keyL amtL b e) (by omega) (by omega), wrapid (x := sumG keyL amtL a e) (by omega) (by omega), wrapid (by omega) (by omega)]
theorem diff_sum {a b : List Ln} (ha : SmallL 600000 a) (hb : SmallL 600000 b) (la : a.length ≤ 10) (lb : b.length ≤ 10) (e : Pr Int Str) : sumG keyL amtL (diffL a b) e = sumG keyL amtL b e - sumG keyL amtL a e := by
  unfold diffL
  rw [sum_lines _ ((subG_asc orderK _ _ (sumsL_asc b)).nodup orderK), sub_val ha hb la lb]
theorem sums_key {l : List Ln} {e : Pr Int Str} {v : Int} (h : (sumsL l).lookup e = some v) : ∃ x ∈ l, keyL x = e := by
  unfold sumsL at h
  rw [addsG_nil_lookup] at h
  by_cases hh : hasG keyL l e = true
  · obtain ⟨x, hx, hk⟩ := List.any_eq_true.1 hh
    exact ⟨x, hx, of_decide_eq_true hk⟩
  · rw [if_neg hh] at h; cases h
theorem diff_small {a b : List Ln} (ha : SmallL 600000 a) (hb : SmallL 600000 b) (la : a.length ≤ 10) (lb : b.length ≤ 10) : SmallL 12000000 (diffL a b) ∧ ∀ x ∈ diffL a b, x.f2 ≠ 0 := by
  have key : ∀ p ∈ (subG ltK (sumsL b) (sumsL a)), formL (toL p) = true ∧ -12000000 ≤ p.2 ∧ p.2 ≤ 12000000 := by
    rintro ⟨e, v⟩ hp
    have hl := lookup_of_mem ((subG_asc orderK (sumsL a) _ (sumsL_asc b)).nodup orderK) hp
    have hv := sub_val ha hb la lb e
    rw [hl, Option.getD_some] at hv
    have h1 := sumG_small (c := 600000) (by omega) e a ha
    have h2 := sumG_small (c := 600000) (by omega) e b hb
    have hx : ∃ x, formL x = true ∧ keyL x = e := by
      rw [subG_lookup _ _ ((sumsL_asc a).nodup orderK)] at hl
      cases hm : (sumsL a).lookup e with
      | some n =>
        obtain ⟨x, hx, hk⟩ := sums_key hm
        exact ⟨x, (ha x hx).1, hk⟩
      | none =>
        rw [hm] at hl
        obtain ⟨x, hx, hk⟩ := sums_key hl
        exact ⟨x, (hb x hx).1, hk⟩
    obtain ⟨x, hf, hk⟩ := hx
    refine ⟨?_, by show -12000000 ≤ v; omega, by show v ≤ 12000000; omega⟩
    subst hk
    unfold formL formS at hf ⊢
    simp only [toL, keyL, Bool.and_eq_true] at hf ⊢
    exact ⟨hf.1, decide_eq_true (by omega), hf.2.2⟩
  refine ⟨fun x hx => ?_, fun x hx => ?_⟩
  · obtain ⟨p, hp, rfl⟩ := List.mem_map.1 hx
    exact key p (List.mem_filter.1 hp).1
  · obtain ⟨p, hp, rfl⟩ := List.mem_map.1 hx
    exact of_decide_eq_true (List.mem_filter.1 hp).2
theorem diff_len (a b : List Ln) : (diffL a b).length ≤ a.length + b.length := by
  have h1 := keepG_len toL (subG ltK (sumsL b) (sumsL a))
  have h2 := subG_len (lt := ltK) (sumsL a) (sumsL b)
  have h3 := sumsL_len a
  have h4 := sumsL_len b
  have : (diffL a b).length = (keepG toL (subG ltK (sumsL b) (sumsL a))).length := rfl
  omega
theorem compare_small {a b : List Ln} (ha : SmallL 600000 a) (hb : SmallL 600000 b) (la : a.length ≤ 10) (lb : b.length ≤ 10) : compareSpec a b = (diffL a b, 0) := by
  unfold compareSpec
  rw [sums_spec ha la, sums_spec hb lb]
  simp only [if_true]
  have ht : (subG ltK (sumsL b) (sumsL a)).all (fun p => tot p.2) = true := by
    rw [List.all_eq_true]
    rintro ⟨e, v⟩ hp
    have hl := lookup_of_mem ((subG_asc orderK (sumsL a) _ (sumsL_asc b)).nodup orderK) hp
    have hv := sub_val ha hb la lb e
    rw [hl, Option.getD_some] at hv
    have h1 := sumG_small (c := 600000) (by omega) e a ha
    have h2 := sumG_small (c := 600000) (by omega) e b hb
    exact decide_eq_true (by show -1000000000000 ≤ v ∧ v ≤ 1000000000000; omega)
  unfold cmpPure
  rw [if_pos ht]
  rfl
theorem post_small (r : Int) (h0 : 1 ≤ r) (h1 : r ≤ 256) {a b : List Ln} (ha : SmallL 600000 a) (hb : SmallL 600000 b) (la : a.length ≤ 10) (lb : b.length ≤ 10) : postSpec r 1 0 a b = (postL r 1 0 (diffL a b), 0) := by
  unfold postSpec
  rw [compare_small ha hb la lb, if_pos rfl, if_pos (by omega)]
theorem post_valid (r : Int) (h0 : 1 ≤ r) (h1 : r ≤ 256) {l : List Ln} (h : SmallL 12000000 l) (hz : ∀ x ∈ l, x.f2 ≠ 0) : (postL r 1 0 l).all validP = true := by
  rw [List.all_eq_true]
  intro p hp
  obtain ⟨x, hx, rfl⟩ := List.mem_map.1 hp
  unfold validP
  rw [show formL x = true from (h x hx).1, decide_eq_true (hz x hx)]
  simp only [Bool.and_true]
  exact decide_eq_true (by show 1 ≤ r ∧ r ≤ 256 ∧ (1 : Int) ≤ 1 ∧ (1 : Int) ≤ 2147483647 ∧ (0 : Int) ≤ 0 ∧ (0 : Int) ≤ 84005; omega)
theorem runs_const (r : Int) : ∀ (l : List Ps) (prev : Option Int) (s : List Ps), (∀ p ∈ l, p.f0 = r) → okAfter prev r = true → (∀ q, okAfter q r = true → runsUp q s = true) → runsUp prev (l ++ s) = true
  | [], prev, s, _, h, h2 => h2 prev h
  | p :: l, prev, s, h, h1, h2 => by
    have hp := h p List.mem_cons_self
    simp only [List.cons_append, runsUp, Bool.and_eq_true]
    refine ⟨by rw [hp]; exact h1, runs_const r l (some p.f0) s (fun q hq => h q (List.mem_cons_of_mem _ hq)) (by rw [hp]; exact decide_eq_true (Int.le_refl r)) h2⟩
theorem runs_post (r : Int) (l : List Ln) (prev : Option Int) (h : okAfter prev r = true) : runsUp prev (postL r 1 0 l) = true := by
  have := runs_const r (postL r 1 0 l) prev [] (fun p hp => by obtain ⟨x, _, rfl⟩ := List.mem_map.1 hp; rfl) h (fun _ _ => rfl)
  rwa [List.append_nil] at this
theorem book_post (r : Int) (h0 : 1 ≤ r) (h1 : r ≤ 256) {l : List Ln} (h : SmallL 12000000 l) (hz : ∀ x ∈ l, x.f2 ≠ 0) (hl : l.length ≤ 100) : bookB (postL r 1 0 l) = true := by
  unfold bookB
  rw [decide_eq_true (by unfold postL; rw [List.length_map]; omega), post_valid r h0 h1 h hz, runs_post r l none rfl]
  rfl
theorem lines_post (r : Int) : ∀ l : List Ln, linesResult 1 0 (postL r 1 0 l) = l
  | [] => rfl
  | x :: l => by
    have ih := lines_post r l
    unfold linesResult postL at ih ⊢
    rw [List.map_cons, List.filter_cons_of_pos (by rfl), List.map_cons, ih]
theorem DeltaShort : payrolllaw37_DeltaShort.Pure := by
  intro l _ _ _
  refine Ev.rounds (g := fun k => payrolllaw37_DeltaShort.f k l) ?_
  unfold payrolllaw37_DeltaShort.f paygen_New.f
  simp only [Option.bind_some]
  obtain ⟨x, t, hx, sx, lx, t0, t1⟩ := lines_ok l 6 (by omega) 0 (by omega) (by omega)
  refine Ev.bind hx ?_
  obtain ⟨y, u, hy, sy, ly, u0, u1⟩ := lines_ok l 6 (by omega) t (by omega) (by omega)
  refine Ev.bind hy ?_
  obtain ⟨z, v, hz, sz, lz, _, _⟩ := lines_ok l 6 (by omega) u (by omega) (by omega)
  refine Ev.bind hz ?_
  have p1 := post_ev 1 1 0 x y
  have p2 := post_ev 2 1 0 y z
  have p3 := post_ev 1 1 0 x z
  rw [post_small 1 (by omega) (by omega) sx sy (by omega) (by omega)] at p1
  rw [post_small 2 (by omega) (by omega) sy sz (by omega) (by omega)] at p2
  rw [post_small 1 (by omega) (by omega) sx sz (by omega) (by omega)] at p3
  refine Ev.bind p1 (Ev.bind p2 (Ev.bind p3 ?_))
  have d1 := diff_small sx sy (by omega) (by omega)
  have d2 := diff_small sy sz (by omega) (by omega)
  have d3 := diff_small sx sz (by omega) (by omega)
  have n1 := diff_len x y
  have n2 := diff_len y z
  have n3 := diff_len x z
  have b1 := book_post 1 (by omega) (by omega) d1.1 d1.2 (by omega)
  have b3 := book_post 1 (by omega) (by omega) d3.1 d3.2 (by omega)
  have v2 := post_valid 2 (by omega) (by omega) d2.1 d2.2
  have q1 : (postL 1 1 0 (diffL x y)).length = (diffL x y).length := List.length_map ..
  have q2 : (postL 2 1 0 (diffL y z)).length = (diffL y z).length := List.length_map ..
  have up : runsUp none (postL 1 1 0 (diffL x y) ++ postL 2 1 0 (diffL y z)) = true := by
    refine runs_const 1 _ none _ (fun p hp => by obtain ⟨w, _, rfl⟩ := List.mem_map.1 hp; rfl) rfl fun q hq => runs_post 2 _ q ?_
    cases q with
    | none => rfl
    | some m => have : m ≤ 1 := of_decide_eq_true hq; exact decide_eq_true (by omega)
  have hadd : addSpec (postL 1 1 0 (diffL x y)) (postL 2 1 0 (diffL y z)) = (postL 1 1 0 (diffL x y) ++ postL 2 1 0 (diffL y z), 0) := by
    unfold addSpec
    rw [if_pos b1, if_pos v2, if_neg (by omega), if_pos up]
  have hA := Lib35.add_ev (postL 1 1 0 (diffL x y)) (postL 2 1 0 (diffL y z)) (by omega)
  rw [hadd] at hA
  refine Ev.congr (fun k => (if_pos rfl).trans ((if_pos rfl).trans (if_pos rfl))) (Ev.bind hA (Ev.congr (fun k => if_pos rfl) ?_))
  refine Ev.bind (Lib35.result_ev _ 1 0) (Ev.bind (Lib35.result_ev _ 1 0) ?_)
  have v1 := post_valid 1 (by omega) (by omega) d1.1 d1.2
  have bA : bookB (postL 1 1 0 (diffL x y) ++ postL 2 1 0 (diffL y z)) = true := by
    unfold bookB
    rw [decide_eq_true (by rw [List.length_append]; omega), List.all_append, v1, v2, up]
    rfl
  have r1 : resultSpec (postL 1 1 0 (diffL x y) ++ postL 2 1 0 (diffL y z)) 1 0 = linesL (sumsL (diffL x y ++ diffL y z)) := by
    unfold resultSpec
    have e : linesResult 1 0 (postL 1 1 0 (diffL x y) ++ postL 2 1 0 (diffL y z)) = diffL x y ++ diffL y z := by
      have h1 := lines_post 1 (diffL x y)
      have h2 := lines_post 2 (diffL y z)
      unfold linesResult at h1 h2 ⊢
      rw [List.filter_append, List.map_append, h1, h2]
    rw [if_pos bA, e, merge_small (c := 12000000) (by omega) _ (d1.1.append d2.1) (by rw [List.length_append]; omega) (by rw [List.length_append]; omega)]
  have r3 : resultSpec (postL 1 1 0 (diffL x z)) 1 0 = linesL (sumsL (diffL x z)) := by
    unfold resultSpec
    rw [if_pos b3, lines_post, merge_small (c := 12000000) (by omega) _ d3.1 (by omega) (by omega)]
  have ext : linesL (sumsL (diffL x y ++ diffL y z)) = linesL (sumsL (diffL x z)) := by
    refine lines_ext fun e => ?_
    rw [sumG_append, diff_sum sx sy (by omega) (by omega), diff_sum sy sz (by omega) (by omega), diff_sum sx sz (by omega) (by omega)]
    omega
  rw [r1, r3, ext]
  refine Ev.bind (same32_self _ (by have := linesL_len (diffL x z); omega)) ?_
  exact Ev.congr (fun k => if_pos rfl) (Ev.bind awake_ev (Ev.now _))
end Go.Proofs.Ytdlljjglmcpniaa.Pure
