-- Printed by wip/xprint.py over the translation, with contracts proved by hand among them. Lean checks it.
import Derived.Test.YtdlljjglmcpniaaQx0
import Derived.Test.YtdlljjglmcpniaaQx5
namespace Go.Proofs.Ytdlljjglmcpniaa.Q
open Go.RowKit Go.Proofs.YtdlljjglmcpniaaW.PrintWords Go.Proofs.YtdlljjglmcpniaaW.PrintLast Go.Proofs.YtdlljjglmcpniaaW.PrintMore
attribute [local go_sem] max2_int min2_int max_two min_two max_three min_three max_four min_four   -- for this text's walks alone
set_option linter.unusedVariables false
set_option linter.unusedSimpArgs false

/-! ### delta_Recover: function 22 -/
section RecoveringExt
open Go.Proofs.Ytdlljjglmcpniaa.MapKit Go.Proofs.Ytdlljjglmcpniaa.ListKit
def btw (n m : Int) : Bool := decide (0 ≤ n ∧ n ≤ m)
theorem pset_grown' (w : World) (p : Addr) (u : Value) : w.grownBy (w.setCell p u) (some p.block) := ⟨rfl, rfl, rfl, by simp, fun k hk hk2 => Below.heap_setCell w p u k (fun e => hk2 (by rw [e]))⟩
theorem btw_eq (n m : Int) : delta_between.f n m = some (btw n m) := by
  unfold delta_between.f btw
  by_cases h : n ≥ 0
  · rw [if_pos h]; congr 1; by_cases h2 : n ≤ m
    · rw [decide_eq_true h2, decide_eq_true ⟨h, h2⟩]
    · rw [decide_eq_false h2, decide_eq_false (fun c => h2 c.2)]
  · rw [if_neg h]; rw [decide_eq_false (fun c => h c.1)]
/-- By how much a net amount is reduced. -/
def holdP (k : Nat) (debt keep share net : Int) : Option Int := (rounding_Part.f k net share 1000000 1 0).bind fun p => if p.2 = 0 then some (mn (mn debt p.1) (mx (wrap64 (net - keep)) 0)) else none
theorem holdP.mono (debt keep share net : Int) (k : Nat) : LeO (holdP k debt keep share net) (holdP (k + 1) debt keep share net) := by
  unfold holdP
  exact LeO.bind (rounding_Part.mono _ _ _ _ _ _) fun _ => LeO.refl _
set_option maxHeartbeats 8000000 in
set_option maxRecDepth 100000 in
theorem recovering_calls (debt keep share : Int) (w : World) : Calls Try.prog 38 #[.int .i64 debt, .int .i64 keep, .int .i64 share] w fun e w' => ∃ gs gd gk, e = .returned (.func (.func 53) #[] #[.pointer (some ⟨gs, 0, none⟩), .pointer (some ⟨gd, 0, none⟩), .pointer (some ⟨gk, 0, none⟩)]) ∧
    w'.heap[gs]? = some (.cells #[.int .i64 share] 3 (0, 0)) ∧ w'.heap[gd]? = some (.cells #[.int .i64 debt] 3 (0, 0)) ∧ w'.heap[gk]? = some (.cells #[.int .i64 keep] 3 (0, 0)) ∧ gs ≠ gd ∧ gk ≠ gd ∧ w.heap.size ≤ gd ∧ Below w.heap.size w w' := by
  have HB := Aside0.mk (Below.refl w.heap.size w)
  go_enter Try.func38, Try.ntmps38
  go_wp2_with (first
    | ((with_reducible refine gate_dst (N := 3) rfl ?_); refine box_event ?hg (N := 3) ?hd (cs := #[.int .i64 debt]) (t := 3) ?hr ?_; (case hd => rfl); (case hg => rfl); (case hr => first | (go_simp; done) | (go_simp; rfl)); intro gd hg w7 hbox hb; have B3 := Aside0.mk hbox; have GE3 := Aside0.mk ((by rw [hg]; exact below_size HB.out) : w.heap.size ≤ gd); have n0_ := Aside0.mk (below_step HB.out hb); clear HB; have HB := n0_; clear n0_ hb hbox hg)
    | ((with_reducible refine gate_dst (N := 4) rfl ?_); refine box_event ?hg (N := 4) ?hd (cs := #[.int .i64 keep]) (t := 3) ?hr ?_; (case hd => rfl); (case hg => rfl); (case hr => first | (go_simp; done) | (go_simp; rfl)); intro gk hg w7 hbox hb; have B4 := Aside0.mk hbox; have N43 := Aside0.mk ((by rw [hg]; exact (Nat.ne_of_lt (blk_lt B3.out)).symm) : gk ≠ gd); have n1_ := Aside0.mk (blk_below B3.out hb); clear B3; have B3 := n1_; clear n1_; have n0_ := Aside0.mk (below_step HB.out hb); clear HB; have HB := n0_; clear n0_ hb hbox hg)
    | ((with_reducible refine gate_dst (N := 5) rfl ?_); refine box_event ?hg (N := 5) ?hd (cs := #[.int .i64 share]) (t := 3) ?hr ?_; (case hd => rfl); (case hg => rfl); (case hr => first | (go_simp; done) | (go_simp; rfl)); intro gs hg w7 hbox hb; have B5 := Aside0.mk hbox; have N53 := Aside0.mk ((by rw [hg]; exact (Nat.ne_of_lt (blk_lt B3.out)).symm) : gs ≠ gd); have n1_ := Aside0.mk (blk_below B3.out hb); have n2_ := Aside0.mk (blk_below B4.out hb); clear B3 B4; have B3 := n1_; have B4 := n2_; clear n1_ n2_; have n0_ := Aside0.mk (below_step HB.out hb); clear HB; have HB := n0_; clear n0_ hb hbox hg))
  go_ret
  exact ⟨gs, gd, gk, rfl, B5.out, B3.out, B4.out, N53.out, N43.out, GE3.out, HB.out⟩
set_option maxHeartbeats 8000000 in
set_option maxRecDepth 100000 in
theorem reduce_calls (k : Nat) (debt keep share net n : Int) (gs gd gk : Nat) (w : World) (hs : w.heap[gs]? = some (.cells #[.int .i64 share] 3 (0, 0))) (hd : w.heap[gd]? = some (.cells #[.int .i64 debt] 3 (0, 0))) (hk : w.heap[gk]? = some (.cells #[.int .i64 keep] 3 (0, 0))) (hsd : gs ≠ gd) (hkd : gk ≠ gd)
    (h : holdP k debt keep share net = some n) : Calls Try.prog 53 #[.int .i64 net, .pointer (some ⟨gs, 0, none⟩), .pointer (some ⟨gd, 0, none⟩), .pointer (some ⟨gk, 0, none⟩)] w fun e w' => e = .returned (.tuple #[.int .i64 n, .int .i64 0]) ∧
      w'.heap[gs]? = some (.cells #[.int .i64 share] 3 (0, 0)) ∧ w'.heap[gd]? = some (.cells #[.int .i64 (wrap64 (debt - n))] 3 (0, 0)) ∧ w'.heap[gk]? = some (.cells #[.int .i64 keep] 3 (0, 0)) ∧ ∃ q, w' = (w.drewN q).setCell ⟨gd, 0, none⟩ (.int .i64 (wrap64 (debt - n))) := by
  unfold holdP at h
  obtain ⟨⟨p, t⟩, A10, h⟩ := Option.bind_eq_some_iff.1 h
  replace h : (if t = 0 then some (mn (mn debt p) (mx (wrap64 (net - keep)) 0)) else none) = some n := h
  by_cases ht : t = 0
  case neg => rw [if_neg ht] at h; cases h
  rw [if_pos ht] at h
  subst ht
  obtain rfl := Option.some.inj h
  have A1 := Aside0.mk A10
  have S := Aside0.mk hs
  have Dd := Aside0.mk hd
  have Kk := Aside0.mk hk
  have hz0 : w.cell? ⟨gs, 0, none⟩ = some (.int .i64 share) := (blk_cell hs 0).trans rfl
  have hz1 : w.cell? ⟨gd, 0, none⟩ = some (.int .i64 debt) := (blk_cell hd 0).trans rfl
  have hz2 : w.cell? ⟨gk, 0, none⟩ = some (.int .i64 keep) := (blk_cell hk 0).trans rfl
  have hf1 := blk_frozen hd 0
  clear h A10 hs hd hk
  unfold mn mx
  go_enter Try.func53, Try.ntmps53
  go_wp2_with (first
    | ((with_reducible refine gate_callee (f := 54) rfl ?_); refine goesL_ (some 13) rfl rfl Try.func54 (by kernel_rfl) rfl #[.int .i64 net, .int .i64 share, .int .i64 1000000, .int .i64 1, .int .i64 0] rfl (by (try simp only [List.map_toArray, List.map_cons, List.map_nil]); first | done | rfl) ?_; (with_reducible refine (rounding_Part.calls k net share 1000000 1 0 p 0 _ A1.out).mono ?_); rintro e w4 ⟨rfl, ⟨nd, rfl⟩⟩; refine ⟨_, rfl, ?_⟩))
  all_goals go_ret2
  all_goals exact ⟨by first | rfl | (simp [*] <;> rfl), blk_far (blk_drewN S.out _) hsd _, blk_put (blk_drewN Dd.out _) 0 _ rfl, blk_far (blk_drewN Kk.out _) hkd _, _, rfl⟩
end RecoveringExt
section RecoverExt
open Go.Proofs.Ytdlljjglmcpniaa.MapKit Go.Proofs.Ytdlljjglmcpniaa.ListKit
def rangeR (b n k s : Int) : Bool := !(decide (b < -1000000000000)) && (!(decide (1000000000000 < b)) && (btw n 1000000000 && (btw k 1000000000 && btw s 1000000)))
def delta_Recover.f (k : Nat) (a0 a1 a2 a3 : Int) : Option (Int × Int × Int) :=
  if rangeR a0 a1 a2 a3 = true then (if a1 ≤ a0 then some (a0, 0, 0) else (holdP k (wrap64 (a1 - a0)) a2 a3 a1).bind fun n => some (wrap64 (a1 - n), wrap64 (a0 - wrap64 (a1 - n)), 0)) else some (0, 0, 2)
theorem delta_Recover.mono : ∀ a0 a1 a2 a3 k, LeO (delta_Recover.f k a0 a1 a2 a3) (delta_Recover.f (k + 1) a0 a1 a2 a3) := by
  intro a0 a1 a2 a3 k
  unfold delta_Recover.f
  split
  · split
    · exact LeO.refl _
    · exact LeO.bind (holdP.mono _ _ _ _ _) fun _ => LeO.refl _
  · exact LeO.refl _
set_option maxHeartbeats 8000000 in
set_option maxRecDepth 100000 in
theorem delta_Recover.calls (k : Nat) (a0 a1 a2 a3 : Int) (r1 r2 r3 : Int) (w : World) (h : delta_Recover.f k a0 a1 a2 a3 = some (r1, r2, r3)) :
    Calls Try.prog 22 #[.int .i64 a0, .int .i64 a1, .int .i64 a2, .int .i64 a3] w fun e w' => e = .returned (.tuple #[.int .i64 r1, .int .i64 r2, .int .i64 r3]) ∧ Below w.heap.size w w' := by
  have HB := Aside0.mk (Below.refl w.heap.size w)
  unfold delta_Recover.f at h
  obtain ⟨b1, h1⟩ : ∃ b, b = decide (a0 < -1000000000000) := ⟨_, rfl⟩
  obtain ⟨b2, h2⟩ : ∃ b, b = decide (1000000000000 < a0) := ⟨_, rfl⟩
  obtain ⟨b3, h3⟩ : ∃ b, b = btw a1 1000000000 := ⟨_, rfl⟩
  obtain ⟨b4, h4⟩ : ∃ b, b = btw a2 1000000000 := ⟨_, rfl⟩
  obtain ⟨b5, h5⟩ : ∃ b, b = btw a3 1000000 := ⟨_, rfl⟩
  have A3 := Aside0.mk (btw_eq a1 1000000000)
  have A4 := Aside0.mk (btw_eq a2 1000000000)
  have A5 := Aside0.mk (btw_eq a3 1000000)
  unfold rangeR at h
  rw [← h1, ← h2, ← h3, ← h4, ← h5] at h
  rw [← h3] at A3; rw [← h4] at A4; rw [← h5] at A5
  replace h1 := h1.symm
  replace h2 := h2.symm
  clear h3 h4 h5
  cases b1 with
  | true =>
    simp only [Bool.not_true, Bool.not_false, Bool.true_and, Bool.false_and, Bool.and_false, Bool.false_eq_true, if_false, Option.some.injEq, Prod.mk.injEq] at h
    obtain ⟨rfl, rfl, rfl⟩ := h
    go_enter Try.func22, Try.ntmps22
    go_wp2
    go_ret3
    exact ⟨by first | rfl | (simp [*] <;> rfl), (by repeat (first | exact HB.out | apply pw_below_drewN))⟩
  | false =>
    cases b2 with
    | true =>
      simp only [Bool.not_true, Bool.not_false, Bool.true_and, Bool.false_and, Bool.and_false, Bool.false_eq_true, if_false, Option.some.injEq, Prod.mk.injEq] at h
      obtain ⟨rfl, rfl, rfl⟩ := h
      go_enter Try.func22, Try.ntmps22
      go_wp2
      go_ret3
      exact ⟨by first | rfl | (simp [*] <;> rfl), (by repeat (first | exact HB.out | apply pw_below_drewN))⟩
    | false =>
      cases b3 with
      | false =>
        simp only [Bool.not_true, Bool.not_false, Bool.true_and, Bool.false_and, Bool.and_false, Bool.false_eq_true, if_false, Option.some.injEq, Prod.mk.injEq] at h
        obtain ⟨rfl, rfl, rfl⟩ := h
        go_enter Try.func22, Try.ntmps22
        go_wp2_with (first | (go_at_call 37; (with_reducible refine (delta_between.calls a1 1000000000 false _ A3.out).mono ?_); rintro e w' ⟨rfl, ⟨nd, rfl⟩⟩) | (go_at_call 37; (with_reducible refine (delta_between.calls a2 1000000000 b4 _ A4.out).mono ?_); rintro e w' ⟨rfl, ⟨nd, rfl⟩⟩) | (go_at_call 37; (with_reducible refine (delta_between.calls a3 1000000 b5 _ A5.out).mono ?_); rintro e w' ⟨rfl, ⟨nd, rfl⟩⟩))
        go_ret3
        exact ⟨by first | rfl | (simp [*] <;> rfl), (by repeat (first | exact HB.out | apply pw_below_drewN))⟩
      | true =>
        cases b4 with
        | false =>
          simp only [Bool.not_true, Bool.not_false, Bool.true_and, Bool.false_and, Bool.and_false, Bool.false_eq_true, if_false, Option.some.injEq, Prod.mk.injEq] at h
          obtain ⟨rfl, rfl, rfl⟩ := h
          go_enter Try.func22, Try.ntmps22
          go_wp2_with (first | (go_at_call 37; (with_reducible refine (delta_between.calls a1 1000000000 true _ A3.out).mono ?_); rintro e w' ⟨rfl, ⟨nd, rfl⟩⟩) | (go_at_call 37; (with_reducible refine (delta_between.calls a2 1000000000 false _ A4.out).mono ?_); rintro e w' ⟨rfl, ⟨nd, rfl⟩⟩) | (go_at_call 37; (with_reducible refine (delta_between.calls a3 1000000 b5 _ A5.out).mono ?_); rintro e w' ⟨rfl, ⟨nd, rfl⟩⟩))
          go_ret3
          exact ⟨by first | rfl | (simp [*] <;> rfl), (by repeat (first | exact HB.out | apply pw_below_drewN))⟩
        | true =>
          cases b5 with
          | false =>
            simp only [Bool.not_true, Bool.not_false, Bool.true_and, Bool.false_and, Bool.and_false, Bool.false_eq_true, if_false, Option.some.injEq, Prod.mk.injEq] at h
            obtain ⟨rfl, rfl, rfl⟩ := h
            go_enter Try.func22, Try.ntmps22
            go_wp2_with (first | (go_at_call 37; (with_reducible refine (delta_between.calls a1 1000000000 true _ A3.out).mono ?_); rintro e w' ⟨rfl, ⟨nd, rfl⟩⟩) | (go_at_call 37; (with_reducible refine (delta_between.calls a2 1000000000 true _ A4.out).mono ?_); rintro e w' ⟨rfl, ⟨nd, rfl⟩⟩) | (go_at_call 37; (with_reducible refine (delta_between.calls a3 1000000 false _ A5.out).mono ?_); rintro e w' ⟨rfl, ⟨nd, rfl⟩⟩))
            go_ret3
            exact ⟨by first | rfl | (simp [*] <;> rfl), (by repeat (first | exact HB.out | apply pw_below_drewN))⟩
          | true =>
            replace h : (if a1 ≤ a0 then some (a0, 0, 0) else (holdP k (wrap64 (a1 - a0)) a2 a3 a1).bind fun n => some (wrap64 (a1 - n), wrap64 (a0 - wrap64 (a1 - n)), 0)) = some (r1, r2, r3) := h
            by_cases c6 : a1 ≤ a0
            · rw [if_pos c6] at h
              simp only [Option.some.injEq, Prod.mk.injEq] at h
              obtain ⟨rfl, rfl, rfl⟩ := h
              have c6b0 : decide (a1 ≤ a0) = true := decide_eq_true c6
              clear c6
              go_enter Try.func22, Try.ntmps22
              go_wp2_with (first | (go_at_call 37; (with_reducible refine (delta_between.calls a1 1000000000 true _ A3.out).mono ?_); rintro e w' ⟨rfl, ⟨nd, rfl⟩⟩) | (go_at_call 37; (with_reducible refine (delta_between.calls a2 1000000000 true _ A4.out).mono ?_); rintro e w' ⟨rfl, ⟨nd, rfl⟩⟩) | (go_at_call 37; (with_reducible refine (delta_between.calls a3 1000000 true _ A5.out).mono ?_); rintro e w' ⟨rfl, ⟨nd, rfl⟩⟩))
              go_ret3
              exact ⟨by first | rfl | (simp [*] <;> rfl), (by repeat (first | exact HB.out | apply pw_below_drewN))⟩
            · rw [if_neg c6] at h
              have c6b0 : decide (a1 ≤ a0) = false := decide_eq_false c6
              clear c6
              obtain ⟨n, hn, h⟩ := Option.bind_eq_some_iff.1 h
              simp only [Option.some.injEq, Prod.mk.injEq] at h
              obtain ⟨rfl, rfl, rfl⟩ := h
              have A7 := Aside0.mk hn
              clear hn
              go_enter Try.func22, Try.ntmps22
              go_wp2_with (first
                | (first | (go_at_call 37; (with_reducible refine (delta_between.calls a1 1000000000 true _ A3.out).mono ?_); rintro e w' ⟨rfl, ⟨nd, rfl⟩⟩) | (go_at_call 37; (with_reducible refine (delta_between.calls a2 1000000000 true _ A4.out).mono ?_); rintro e w' ⟨rfl, ⟨nd, rfl⟩⟩) | (go_at_call 37; (with_reducible refine (delta_between.calls a3 1000000 true _ A5.out).mono ?_); rintro e w' ⟨rfl, ⟨nd, rfl⟩⟩))
                | ((with_reducible refine gate_callee (f := 38) rfl ?_); refine goesL_ (some 44) rfl rfl Try.func38 (by kernel_rfl) rfl #[.int .i64 (wrap64 (a1 - a0)), .int .i64 a2, .int .i64 a3] rfl (by (try simp only [List.map_toArray, List.map_cons, List.map_nil]); first | done | rfl) ?_; (with_reducible refine (recovering_calls (wrap64 (a1 - a0)) a2 a3 _).mono ?_); rintro e w4 ⟨gs, gd, gk, rfl, hbs, hbd, hbk, hsd, hkd, hge, hb⟩; refine ⟨_, rfl, ?_⟩; have BS := Aside0.mk hbs; have BD := Aside0.mk hbd; have BKp := Aside0.mk hbk; have NSD := Aside0.mk hsd; have NKD := Aside0.mk hkd; have n0_ := Aside0.mk (below_step (W := _) (by repeat (first | exact HB.out | apply pw_below_drewN)) hb); have GED := Aside0.mk (Nat.le_trans (below_size (show Below w.heap.size w _ from (by repeat (first | exact HB.out | apply pw_below_drewN)))) hge); clear HB; have HB := n0_; clear n0_ hb hbs hbd hbk hsd hkd hge)
                | (go_at_call 53; (with_reducible refine (reduce_calls k (wrap64 (a1 - a0)) a2 a3 a1 n gs gd gk _ BS.out BD.out BKp.out NSD.out NKD.out A7.out).mono ?_); rintro e w5 ⟨rfl, hbs, hbd, hbk, q, hq⟩; have n1_ := Aside0.mk hbs; have n2_ := Aside0.mk hbd; have n3_ := Aside0.mk hbk; have n0_ := Aside0.mk (show Below w.heap.size w w5 by rw [hq]; exact below_set (pw_below_drewN HB.out q) GED.out); clear HB BS BD BKp; have HB := n0_; have BS := n1_; have BD := n2_; have BKp := n3_; clear n0_ n1_ n2_ n3_ hbs hbd hbk; clear hq))
              go_ret3
              exact ⟨by first | rfl | (simp [*] <;> rfl), HB.out⟩
end RecoverExt

/-! ### payrolllaw37_awake: function 12 -/
def payrolllaw37_awake.f (k : Nat)  : Option (Bool) := (delta_Recover.f k 700 1000 800 500000).bind fun bt124 => ((delta_Postings.f k 1 1 0 ([] : List (S56)) (([(⟨9, (⟨#[]⟩ : ByteArray), 5⟩ : S56)] : List (S56)))).bind fun bt130 => (if bt124.2.2 = 0 then (if bt124.1 = 800 then (if bt124.2.1 = (-100) then (if bt130.2 = 0 then (if (bt130.1.length : Int) = 1 then (if 0 < (bt130.1.length : Int) then (some (((rd_T58 bt130.1 0).f3.f2) == 5)) else (none)) else (none)) else (none)) else (none)) else (none)) else (none)))
theorem payrolllaw37_awake.mono : ∀ k, LeO (payrolllaw37_awake.f k ) (payrolllaw37_awake.f (k + 1) ) := by
  intro  k
  unfold payrolllaw37_awake.f
  repeat' first
      | (with_reducible exact delta_Postings.mono _ _ _ _ _ _)
      | (with_reducible exact delta_Recover.mono _ _ _ _ _)
      | (with_reducible exact LeO.refl _)
      | (with_reducible exact LeO.none _)
      | (with_reducible refine LeO.ite ?_ ?_)
      | (with_reducible refine LeO.bind ?_ (fun _ => ?_))
      | exact delta_Postings.mono _ _ _ _ _ _
      | exact delta_Recover.mono _ _ _ _ _
      | exact LeO.none _
      | refine LeO.ite ?_ ?_
      | refine LeO.bind ?_ (fun _ => ?_)
set_option maxHeartbeats 8000000 in
set_option maxRecDepth 100000 in
theorem payrolllaw37_awake.calls (k : Nat)  (r : Bool) (w : World) (h : payrolllaw37_awake.f k  = some r) :
    Calls Try.prog 12 #[] w fun e w' => e = .returned (.bool r) ∧ Below w.heap.size w w' := by
  have hu56 := Try.underlying56
  have HB := Aside0.mk (Below.refl w.heap.size w)
  have H : ((delta_Recover.f k 700 1000 800 500000).bind fun bt124 => ((delta_Postings.f k 1 1 0 ([] : List (S56)) (([(⟨9, (⟨#[]⟩ : ByteArray), 5⟩ : S56)] : List (S56)))).bind fun bt130 => (if bt124.2.2 = 0 then (if bt124.1 = 800 then (if bt124.2.1 = (-100) then (if bt130.2 = 0 then (if (bt130.1.length : Int) = 1 then (if 0 < (bt130.1.length : Int) then (some (((rd_T58 bt130.1 0).f3.f2) == 5)) else (none)) else (none)) else (none)) else (none)) else (none)) else (none)))) = some r := h
  clear h
  replace H := Option.bind_eq_some_iff.mp H
  obtain ⟨⟨t124, t125, t126⟩, A10, H⟩ := H
  replace H : ((delta_Postings.f k 1 1 0 ([] : List (S56)) (([(⟨9, (⟨#[]⟩ : ByteArray), 5⟩ : S56)] : List (S56)))).bind fun bt130 => (if t126 = 0 then (if t124 = 800 then (if t125 = (-100) then (if bt130.2 = 0 then (if (bt130.1.length : Int) = 1 then (if 0 < (bt130.1.length : Int) then (some (((rd_T58 bt130.1 0).f3.f2) == 5)) else (none)) else (none)) else (none)) else (none)) else (none)) else (none))) = some r := H
  have A1 := Aside0.mk A10
  clear A10
  obtain ⟨y127, hy127⟩ : ∃ y_ : List (S56), y_ = (([(⟨9, (⟨#[]⟩ : ByteArray), 5⟩ : S56)] : List (S56))) := ⟨_, rfl⟩
  replace H : ((delta_Postings.f k 1 1 0 ([] : List (S56)) y127).bind fun bt130 => (if t126 = 0 then (if t124 = 800 then (if t125 = (-100) then (if bt130.2 = 0 then (if (bt130.1.length : Int) = 1 then (if 0 < (bt130.1.length : Int) then (some (((rd_T58 bt130.1 0).f3.f2) == 5)) else (none)) else (none)) else (none)) else (none)) else (none)) else (none))) = some r := by first | (rw [hy127]; with_reducible exact H) | (have H2_ := (Option.bind_some _ _).symm.trans H; rw [hy127]; with_reducible exact H2_) | (have H2_ := (Option.bind_some _ _).symm.trans H; with_reducible exact H2_) | with_reducible exact H | (rw [hy127]; exact H) | exact H
  have Ny127 := Aside0.mk hy127
  clear hy127
  replace H := Option.bind_eq_some_iff.mp H
  obtain ⟨⟨t130, t131⟩, A20, H⟩ := H
  replace H : (if t126 = 0 then (if t124 = 800 then (if t125 = (-100) then (if t131 = 0 then (if (t130.length : Int) = 1 then (if 0 < (t130.length : Int) then (some (((rd_T58 t130 0).f3.f2) == 5)) else (none)) else (none)) else (none)) else (none)) else (none)) else (none)) = some r := H
  have A2 := Aside0.mk A20
  clear A20
  by_cases c3 : t126 = 0
  · rw [if_pos c3] at H
    have c3b0 : (t126 == 0) = true := beq_iff_eq.mpr c3
    have c3b1 : (t126 != 0) = false := bne_eq_false_iff_eq.mpr c3
    clear c3
    by_cases c4 : t124 = 800
    · rw [if_pos c4] at H
      have c4b0 : (t124 == 800) = true := beq_iff_eq.mpr c4
      have c4b1 : (t124 != 800) = false := bne_eq_false_iff_eq.mpr c4
      clear c4
      by_cases c5 : t125 = (-100)
      · rw [if_pos c5] at H
        have c5b0 : (t125 == (-100)) = true := beq_iff_eq.mpr c5
        have c5b1 : (t125 != (-100)) = false := bne_eq_false_iff_eq.mpr c5
        clear c5
        by_cases c6 : t131 = 0
        · rw [if_pos c6] at H
          have c6b0 : (t131 == 0) = true := beq_iff_eq.mpr c6
          have c6b1 : (t131 != 0) = false := bne_eq_false_iff_eq.mpr c6
          clear c6
          by_cases c7 : (t130.length : Int) = 1
          · rw [if_pos c7] at H
            have c7b0 : ((t130.length : Int) == 1) = true := beq_iff_eq.mpr c7
            have c7b1 : ((t130.length : Int) != 1) = false := bne_eq_false_iff_eq.mpr c7
            clear c7
            by_cases c8 : 0 < (t130.length : Int)
            · rw [if_pos c8] at H
              have c8b0 : decide (0 < (t130.length : Int)) = true := decide_eq_true c8
              have c8b1 : decide (0 < t130.length) = true := decide_eq_true (by omega)
              clear c8
              obtain rfl := Option.some.inj H
              go_enter Try.func12, Try.ntmps12
              go_wp2_with (first | ((with_reducible refine gate_callee (f := 22) rfl ?_); refine goesL_ (some 7) rfl rfl Try.func22 (by kernel_rfl) rfl #[.int .i64 700, .int .i64 1000, .int .i64 800, .int .i64 500000] rfl (by (try simp only [List.map_toArray, List.map_cons, List.map_nil]); first | done | rfl | (simp only [List.length_drop, List.length_take]; rfl)) ?_; (with_reducible refine (delta_Recover.calls k 700 1000 800 500000 t124 t125 t126 _ A1.out).mono ?_); rintro e w9 ⟨rfl, hb⟩; refine ⟨_, rfl, ?_⟩; have n0_ := Aside0.mk (below_step (by repeat (first | (with_reducible first | exact HB.out | apply below_alloc | apply pw_below_drewN | apply below_drew1) | exact HB.out)) hb); clear HB; have HB := n0_; clear n0_; (try clear hb); (try clear hb2); (try clear hk); (try clear hi)) | ((with_reducible refine gate_dst (N := 13) rfl ?_); (try (refine gate_guard (by rfl) ?_; dsimp only)); refine Kd.R_lit k56 _ 56 ?hg (N := 13) ?hd (xs := ([(⟨9, (⟨#[]⟩ : ByteArray), 5⟩ : S56)] : List (S56))) (inner := [.int .i64 9, .string (⟨#[]⟩ : ByteArray), .int .i64 5]) (ok := fun _ => True) (okp := fun _ => True) ?hr ?hp (fun _ hk => hk) trivial (Below.refl _ _) (Nat.le_refl _) (by simp) ?_; (case hd => rfl); (case hg => rfl); (case hr => first | (go_simp; done) | (go_simp; rfl)); (case hp => exact (Reps.c3 (show Kd.M k56 _ _ _ (⟨9, (⟨#[]⟩ : ByteArray), 5⟩ : S56) [.int .i64 9, .string (⟨#[]⟩ : ByteArray), .int .i64 5] from (k56_mkM _ _ _ (⟨9, (⟨#[]⟩ : ByteArray), 5⟩ : S56) )) (Reps.none _ _))); intro v128 w10 ho11 hb hg_ hnew_; clear hg_ hnew_; (first | rw [← Ny127.out] at ho11 | (simp only [Int.reduceToNat] at ho11; rw [← Ny127.out] at ho11)); have n0_ := Aside0.mk (Kd.R_lower ho11 (below_size (by repeat (first | (with_reducible first | exact HB.out | apply below_alloc | apply pw_below_drewN | apply below_drew1) | exact HB.out)))); have n1_ := Aside0.mk (below_step (by repeat (first | (with_reducible first | exact HB.out | apply below_alloc | apply pw_below_drewN | apply below_drew1) | exact HB.out)) hb); clear HB; have HO129 := n0_; have HB := n1_; clear n0_ n1_; clear hb ho11; obtain ⟨Ao12, co12, eo12⟩ := Kd.R_slice HO129.out; subst eo12) | ((with_reducible refine gate_callee (f := 16) rfl ?_); refine goesL_ (some 14) rfl rfl Try.func16 (by kernel_rfl) rfl #[.int .i64 1, .int .i64 1, .int .i64 0, .slice none 0 0, .slice Ao12 y127.length co12] rfl (by (try simp only [List.map_toArray, List.map_cons, List.map_nil]); first | done | rfl | (simp only [List.length_drop, List.length_take]; rfl)) ?_; (refine (delta_Postings.calls k 1 1 0 _ _ ([] : List (S56)) _ _ y127 t130 t131 _ ?side1 ?side2 ?side3 ?side4 A2.out).mono ?_); (case side1 => exact Kd.C_nil _ _); (case side2 => exact Nat.le_refl _); (case side3 => repeat (first | exact (Kd.R_reads' HO129.out).2.2 | (with_reducible refine Kd.C_alloc ?_ _) | (with_reducible refine Kd.C_drewN ?_ _) | (with_reducible refine Kd.C_drew ?_))); (case side4 => exact (Kd.R_reads' HO129.out).2.1); rintro e w13 ⟨v132, rfl, ho0, hb⟩; refine ⟨_, rfl, ?_⟩; have n0_ := Aside0.mk (Kd.R_below (by (with_reducible repeat (first | apply Kd.R_alloc | apply Kd.R_drewN | apply Kd.R_drew)); exact HO129.out) hb); have n1_ := Aside0.mk (Kd.R_lower ho0 (below_size (by repeat (first | (with_reducible first | exact HB.out | apply below_alloc | apply pw_below_drewN | apply below_drew1) | exact HB.out)))); have n2_ := Aside0.mk (below_step (by repeat (first | (with_reducible first | exact HB.out | apply below_alloc | apply pw_below_drewN | apply below_drew1) | exact HB.out)) hb); clear HO129; clear HB; have HO129 := n0_; have HO133 := n1_; have HB := n2_; clear n0_ n1_ n2_; (try clear hb); (try clear hb2); (try clear hk); (try clear hi); (try clear ho0); obtain ⟨Ao14, co14, eo14⟩ := Kd.R_slice HO133.out; subst eo14; have p134 : 0 ≤ (0 : Int) := (by omega); have q134 : 0 < (t130.length : Int) := of_decide_eq_true (by first | (with_reducible assumption) | assumption); obtain ⟨ad134, e134, hx134_0, hx134_1, hx134_2, hx134_3, hx134_4, hx134_5⟩ := at_T58 (Kd.R_reads' HO133.out).2.2 0 p134 q134; cases e134; have qi134 : (0 < t130.length) = True := eq_true (by omega); (try rw [show ((0 : Int)).toNat = 0 from rfl] at hx134_0); (try rw [show 0 * 6 = 0 from rfl] at hx134_0); (try rw [Addr.add_zero'] at hx134_0); (try rw [show ((0 : Int)).toNat = 0 from rfl] at hx134_1); (try rw [show 0 * 6 = 0 from rfl] at hx134_1); (try rw [Addr.add_zero'] at hx134_1); (try rw [show ((0 : Int)).toNat = 0 from rfl] at hx134_2); (try rw [show 0 * 6 = 0 from rfl] at hx134_2); (try rw [Addr.add_zero'] at hx134_2); (try rw [show ((0 : Int)).toNat = 0 from rfl] at hx134_3); (try rw [show 0 * 6 = 0 from rfl] at hx134_3); (try rw [Addr.add_zero'] at hx134_3); (try rw [show ((0 : Int)).toNat = 0 from rfl] at hx134_4); (try rw [show 0 * 6 = 0 from rfl] at hx134_4); (try rw [Addr.add_zero'] at hx134_4); (try rw [show ((0 : Int)).toNat = 0 from rfl] at hx134_5); (try rw [show 0 * 6 = 0 from rfl] at hx134_5); (try rw [Addr.add_zero'] at hx134_5); replace p134 := eq_true p134; replace q134 := eq_true q134))
              go_ret
              exact ⟨by first | rfl | (simp [errW_none, errW_some] <;> rfl) | (simp [*, errW_none, errW_some] <;> rfl), by repeat (first | (with_reducible first | exact HB.out | apply below_alloc | apply pw_below_drewN | apply below_drew1) | exact HB.out)⟩
            · rw [if_neg c8] at H
              exact absurd H (by simp)
          · rw [if_neg c7] at H
            exact absurd H (by simp)
        · rw [if_neg c6] at H
          exact absurd H (by simp)
      · rw [if_neg c5] at H
        exact absurd H (by simp)
    · rw [if_neg c4] at H
      exact absurd H (by simp)
  · rw [if_neg c3] at H
    exact absurd H (by simp)

/-- A state of type 60 at block g of W; what its slices lead to came in by w0. -/
def IsS60 (w0 W : World) (g : Nat) (f0 : List Int) (f1 : Int) : Prop := ∃ A0 c0, W.heap[g]? = some (.cells #[.slice A0 f0.length c0, .int .i64 f1] 60 (0, 0)) ∧ w0.heap.size ≤ g ∧ Kd.C (Kd.int .i64) w0 A0 f0.length f0
theorem IsS60.grown {w0 W : World} {g : Nat} {f0 : List Int} {f1 : Int} {W1 : World} {row : Option Nat} (h : IsS60 w0 W g f0 f1) (hw : W.grownBy W1 row) (hne : some g ≠ row) : IsS60 w0 W1 g f0 f1 := by
  obtain ⟨A0, c0, hb, hg, hr0⟩ := h
  exact ⟨A0, c0, blk_grown hb hw hne, hg, hr0⟩
theorem IsS60.own_neN {w0 W : World} {g : Nat} {f0 : List Int} {f1 : Int} {α : Type} {d : Kd α} {e : Nat} {base : Nat} {ok : Nat → Prop} {v : Value} {xs : List α} (h : IsS60 w0 W g f0 f1) (ho : Kd.N d e W base ok v xs) (ht : e ≠ 60) : some g ≠ v.ownBlock := by
  obtain ⟨A0, c0, hb, hg, hr0⟩ := h
  exact Kd.N_ne ho hb ht
theorem IsS60.fresh {w0 W : World} {g : Nat} {f0 : List Int} {f1 : Int} (h : IsS60 w0 W g f0 f1) : ∀ k, W.heap.size ≤ k → k ≠ g := by
  obtain ⟨A0, c0, hb, hg, hr0⟩ := h
  exact Kd.freshB hb
theorem IsS60.kept {w0 W : World} {g : Nat} {f0 : List Int} {f1 : Int} {W1 : World} {S : Nat → Prop} (h : IsS60 w0 W g f0 f1) (hk : Kept W W1 S) (hne : ¬ S g) : IsS60 w0 W1 g f0 f1 := by
  obtain ⟨A0, c0, hb, hg, hr0⟩ := h
  exact ⟨A0, c0, blk_kept hb hk hne, hg, hr0⟩
theorem IsS60.below {w0 W : World} {g : Nat} {f0 : List Int} {f1 : Int} {W1 : World} (h : IsS60 w0 W g f0 f1) (hw : Below W.heap.size W W1) : IsS60 w0 W1 g f0 f1 := h.grown (grown_of_below hw none) (by simp)
theorem IsS60.alloc {w0 W : World} {g : Nat} {f0 : List Int} {f1 : Int} (h : IsS60 w0 W g f0 f1) (o : Obj) : IsS60 w0 (W.alloc o) g f0 f1 := h.below (below_alloc (Below.refl _ _) o)
theorem IsS60.drewN {w0 W : World} {g : Nat} {f0 : List Int} {f1 : Int} (h : IsS60 w0 W g f0 f1) (m : Nat) : IsS60 w0 (W.drewN m) g f0 f1 := h
theorem IsS60.drew {w0 W : World} {g : Nat} {f0 : List Int} {f1 : Int} (h : IsS60 w0 W g f0 f1) : IsS60 w0 W.drew g f0 f1 := h
theorem IsS60.at_ {w0 W : World} {g : Nat} {f0 : List Int} {f1 : Int} {w' : World} {m : Nat} (hq : W.drewN m = w') (h : IsS60 w0 W g f0 f1) : IsS60 w0 w' g f0 f1 := by subst hq; exact IsS60.drewN h m
theorem IsS60.apart {w0 W : World} {g : Nat} {f0 : List Int} {f1 : Int} {α : Type} {d : Kd α} {e : Nat} {base : Nat} {ok : Nat → Prop} {v : Value} {xs : List α} (h : IsS60 w0 W g f0 f1) (ho : d.R e W base ok v xs) (ht : ∀ q, q ∈ e :: d.E → q ≠ 60) : d.R e W base (fun k => ok k ∧ k ≠ g) v xs := by
  obtain ⟨A0, c0, hb, hg, hr0⟩ := h
  exact Kd.R_types ho hb ht
theorem IsS60.own_ne {w0 W : World} {g : Nat} {f0 : List Int} {f1 : Int} {α : Type} {d : Kd α} {e : Nat} {base : Nat} {ok : Nat → Prop} {v : Value} {xs : List α} (h : IsS60 w0 W g f0 f1) (ho : d.R e W base ok v xs) (ht : e ≠ 60) : some g ≠ v.ownBlock := by
  obtain ⟨A0, c0, hb, hg, hr0⟩ := h
  exact Kd.R_ne ho hb ht
theorem IsS60.apartQ {w0 W : World} {g : Nat} {f0 : List Int} {f1 : Int} {α : Type} {d : Kd α} {e : Nat} {base : Nat} {ok : Nat → Prop} {v : Value} {xs : List α} (h : IsS60 w0 W g f0 f1) (ho : d.Q e W base ok v xs) (ht : ∀ q, q ∈ e :: d.E → q ≠ 60) : d.Q e W base (fun k => ok k ∧ k ≠ g) v xs := by
  obtain ⟨A0, c0, hb, hg, hr0⟩ := h
  exact Kd.Q_types ho hb ht
theorem IsS60.own_neQ {w0 W : World} {g : Nat} {f0 : List Int} {f1 : Int} {α : Type} {d : Kd α} {e : Nat} {base : Nat} {ok : Nat → Prop} {v : Value} {xs : List α} (h : IsS60 w0 W g f0 f1) (ho : d.Q e W base ok v xs) (ht : e ≠ 60) : some g ≠ v.ownBlock := by
  obtain ⟨A0, c0, hb, hg, hr0⟩ := h
  exact Kd.Q_ne ho hb ht
theorem IsS60.apartS {w0 W : World} {g : Nat} {f0 : List Int} {f1 : Int} {α : Type} {d : Kd α} {e : Nat} {base : Nat} {ok : Nat → Prop} {v : Value} {xs : List α} (h : IsS60 w0 W g f0 f1) (ho : d.S e W base ok v xs) (ht : ∀ q, q ∈ e :: d.E → q ≠ 60) : d.S e W base (fun k => ok k ∧ k ≠ g) v xs := by
  obtain ⟨A0, c0, hb, hg, hr0⟩ := h
  exact Kd.S_types ho hb ht
theorem IsS60.own_neS {w0 W : World} {g : Nat} {f0 : List Int} {f1 : Int} {α : Type} {d : Kd α} {e : Nat} {base : Nat} {ok : Nat → Prop} {v : Value} {xs : List α} (h : IsS60 w0 W g f0 f1) (ho : d.S e W base ok v xs) (ht : e ≠ 60) : some g ≠ v.ownBlock := by
  obtain ⟨A0, c0, hb, hg, hr0⟩ := h
  exact Kd.S_ne ho hb ht
theorem IsS60.lt {w0 W : World} {g : Nat} {f0 : List Int} {f1 : Int} (h : IsS60 w0 W g f0 f1) : g < W.heap.size := by
  obtain ⟨A0, c0, hb, hg, hr0⟩ := h
  exact blk_lt hb
theorem IsS60.ge {w0 W : World} {g : Nat} {f0 : List Int} {f1 : Int} (h : IsS60 w0 W g f0 f1) : w0.heap.size ≤ g := by
  obtain ⟨A0, c0, hb, hg, hr0⟩ := h
  exact hg
theorem IsS60.ne_blk {w0 W : World} {g : Nat} {f0 : List Int} {f1 : Int} {a : Nat} {cs : Array Value} {t : TypeId} {fr : Nat × Nat} (h : IsS60 w0 W g f0 f1) (hb2 : W.heap[a]? = some (.cells cs t fr)) (ht : t ≠ 60) : g ≠ a := by
  obtain ⟨A0, c0, hb, hg, hr0⟩ := h
  rintro rfl
  rw [hb] at hb2
  injection hb2 with hb2
  injection hb2 with _ ht2
  exact ht ht2.symm
theorem IsS60.far {w0 W : World} {g : Nat} {f0 : List Int} {f1 : Int} {p : Addr} (h : IsS60 w0 W g f0 f1) (hne : g ≠ p.block) (u : Value) : IsS60 w0 (W.setCell p u) g f0 f1 := by
  obtain ⟨A0, c0, hb, hg, hr0⟩ := h
  exact ⟨A0, c0, blk_far hb hne u, hg, hr0⟩
theorem cellS60_0 {W : World} {g : Nat} {A0 : Option Addr} {c0 : Nat} {f0 : List Int} {f1 : Int} (h : W.heap[g]? = some (.cells #[.slice A0 f0.length c0, .int .i64 f1] 60 (0, 0))) : W.cell? ⟨g, 0, none⟩ = some (.slice A0 f0.length c0) := (blk_cell h 0).trans rfl
theorem cellS60_1 {W : World} {g : Nat} {A0 : Option Addr} {c0 : Nat} {f0 : List Int} {f1 : Int} (h : W.heap[g]? = some (.cells #[.slice A0 f0.length c0, .int .i64 f1] 60 (0, 0))) : W.cell? ⟨g, 1, none⟩ = some (.int .i64 f1) := (blk_cell h 1).trans rfl
theorem IsS60.set_1 {w0 W : World} {g : Nat} {f0 : List Int} {f1 : Int} (h : IsS60 w0 W g f0 f1) (x : Int) : IsS60 w0 (W.setCell ⟨g, 1, none⟩ (.int .i64 x)) g f0 x := by
  obtain ⟨A0, c0, hb, hg, hr0⟩ := h
  exact ⟨A0, c0, by simpa using blk_set hb 1 (.int .i64 x), hg, hr0⟩
theorem IsS60.new (w0 W : World) (A0 : Option Addr) (c0 : Nat) (f0 : List Int) (f1 : Int) (hB : Below w0.heap.size w0 W) (hr0 : Kd.C (Kd.int .i64) w0 A0 f0.length f0) : IsS60 w0 (W.alloc (.cells #[.slice A0 f0.length c0, .int .i64 f1] 60)) W.heap.size f0 f1 := ⟨A0, c0, by simpa using heap_alloc_new W _, hB.size, hr0⟩

/-! ### paygen_New: function 13 -/
def paygen_New.f (l0 : List Int) : Option (List Int × Int) := some (l0, 0)
set_option maxHeartbeats 8000000 in
set_option maxRecDepth 100000 in
theorem paygen_New.calls (A0 : Option Addr) (c0 : Nat) (l0 : List Int) (r1 : List Int) (r2 : Int) (w0 w : World) (hB : Below w0.heap.size w0 w) (hr0 : Kd.C (Kd.int .i64) w0 A0 l0.length l0) (hc0 : l0.length ≤ c0) (h : paygen_New.f l0 = some (r1, r2)) :
    Calls Try.prog 13 #[.slice A0 l0.length c0] w fun e w' => ∃ g_ : Nat, e = .returned (.pointer (some ⟨g_, 0, none⟩)) ∧ IsS60 w0 w' g_ r1 r2 ∧ Below w0.heap.size w0 w' ∧ Below w.heap.size w w' := by
  have hu60 := Try.underlying60
  have HR0 := Aside0.mk hr0
  have HC0 := Aside0.mk hc0
  clear hr0 hc0
  have HBW := Aside0.mk (Below.refl w.heap.size w)
  have HW0 := Aside0.mk hB.size
  have HB := Aside0.mk hB
  clear hB
  have H : (some (l0, 0)) = some (r1, r2) := h
  clear h
  simp only [Option.some.injEq, Prod.mk.injEq] at H
  obtain ⟨rfl, rfl⟩ := H
  go_enter Try.func13, Try.ntmps13
  go_wp2_with (first | ((with_reducible refine gate_dst (N := 5) rfl ?_); refine box_event ?hg (N := 5) ?hd (cs := #[.slice A0 l0.length c0, .int .i64 0]) (t := 60) ?hr ?_; (case hd => rfl); (case hg => rfl); (case hr => first | (go_simp; done) | (go_simp; rfl)); intro gb135 hg w2 hbox hb; have n0_ := Aside0.mk (below_step HBW.out hb); have n1_ := Aside0.mk (below_step (by repeat (first | (with_reducible first | exact HB.out | apply below_alloc | apply pw_below_drewN | apply below_drew1) | exact HB.out)) hb); have n2_ := Aside0.mk (hbox); have n3_ := Aside0.mk ((by rw [hg]; exact (below_size (by repeat (first | (with_reducible first | exact HBW.out | apply below_alloc | apply pw_below_drewN | apply below_drew1) | exact HBW.out))) : w.heap.size ≤ gb135)); have n4_ := Aside0.mk ((Nat.le_trans HW0.out (by rw [hg]; exact (below_size (by repeat (first | (with_reducible first | exact HBW.out | apply below_alloc | apply pw_below_drewN | apply below_drew1) | exact HBW.out))) : w.heap.size ≤ gb135) : w0.heap.size ≤ gb135)); clear HBW; clear HB; have HBW := n0_; have HB := n1_; have BK135 := n2_; have GW135 := n3_; have GE135 := n4_; clear n0_ n1_ n2_ n3_ n4_; clear hb hbox hg))
  go_ret
  exact ⟨_, rfl, (show IsS60 w0 _ gb135 l0 0 from ⟨_, _, by (with_reducible repeat (first | refine blk_drewN ?_ _ | refine blk_drew ?_ | refine blk_alloc ?_ _)); exact BK135.out, GE135.out, HR0.out⟩), by repeat (first | (with_reducible first | exact HB.out | apply below_alloc | apply pw_below_drewN | apply below_drew1 | refine below_set ?_ GE135.out) | exact HB.out), by repeat (first | (with_reducible first | exact HBW.out | apply below_alloc | apply pw_below_drewN | apply below_drew1 | refine below_set ?_ GW135.out) | exact HBW.out)⟩

/-! ### paygen_Deck_Next: function 28 -/
def paygen_Deck_Next.f (s0_0 : List Int) (s0_1 : Int) (a1 : Int) : Option (Int × Int) := if s0_1 < (s0_0.length : Int) then (if 0 ≤ s0_1 then (if a1 = 0 then (none) else (if (Int.tmod (rd s0_0 s0_1) a1) < 0 then (some (wrap64 ((Int.tmod (rd s0_0 s0_1) a1) + a1), wrap64 (s0_1 + 1))) else (some (Int.tmod (rd s0_0 s0_1) a1, wrap64 (s0_1 + 1))))) else (none)) else (if a1 = 0 then (none) else (if (Int.tmod (wrap64 ((wrap64 (5 * s0_1)) + 2)) a1) < 0 then (some (wrap64 ((Int.tmod (wrap64 ((wrap64 (5 * s0_1)) + 2)) a1) + a1), wrap64 (s0_1 + 1))) else (some (Int.tmod (wrap64 ((wrap64 (5 * s0_1)) + 2)) a1, wrap64 (s0_1 + 1)))))
set_option maxHeartbeats 8000000 in
set_option maxRecDepth 100000 in
theorem paygen_Deck_Next.calls (g : Nat) (s0_0 : List Int) (s0_1 : Int) (a1 : Int) (r1 : Int) (r2 : Int) (w0 w : World) (hI : IsS60 w0 w g s0_0 s0_1) (hB : Below w0.heap.size w0 w) (h : paygen_Deck_Next.f s0_0 s0_1 a1 = some (r1, r2)) :
    Calls Try.prog 28 #[.pointer (some ⟨g, 0, none⟩), .int .i64 a1] w fun e w' => e = .returned (.int .i64 r1) ∧ IsS60 w0 w' g s0_0 r2 ∧ Below w0.heap.size w0 w' ∧ KeepBut w w' g none := by
  have HI0 := Aside0.mk hI
  have HK := Aside0.mk (KeepBut.refl w g none)
  have HL := Aside0.mk hB.size
  clear hI
  have HW0 := Aside0.mk hB.size
  have HB := Aside0.mk hB
  clear hB
  have H : (if s0_1 < (s0_0.length : Int) then (if 0 ≤ s0_1 then (if a1 = 0 then (none) else (if (Int.tmod (rd s0_0 s0_1) a1) < 0 then (some (wrap64 ((Int.tmod (rd s0_0 s0_1) a1) + a1), wrap64 (s0_1 + 1))) else (some (Int.tmod (rd s0_0 s0_1) a1, wrap64 (s0_1 + 1))))) else (none)) else (if a1 = 0 then (none) else (if (Int.tmod (wrap64 ((wrap64 (5 * s0_1)) + 2)) a1) < 0 then (some (wrap64 ((Int.tmod (wrap64 ((wrap64 (5 * s0_1)) + 2)) a1) + a1), wrap64 (s0_1 + 1))) else (some (Int.tmod (wrap64 ((wrap64 (5 * s0_1)) + 2)) a1, wrap64 (s0_1 + 1)))))) = some (r1, r2) := h
  clear h
  by_cases c3 : s0_1 < (s0_0.length : Int)
  · rw [if_pos c3] at H
    have c3b0 : decide (s0_1 < (s0_0.length : Int)) = true := decide_eq_true c3
    clear c3
    by_cases c4 : 0 ≤ s0_1
    · rw [if_pos c4] at H
      have c4b0 : decide (0 ≤ s0_1) = true := decide_eq_true c4
      clear c4
      by_cases c5 : a1 = 0
      · rw [if_pos c5] at H
        exact absurd H (by simp)
      · rw [if_neg c5] at H
        have c5b0 : (a1 == 0) = false := beq_eq_false_iff_ne.mpr c5
        have c5b1 : (a1 != 0) = true := bne_iff_ne.mpr c5
        by_cases c6 : (Int.tmod (rd s0_0 s0_1) a1) < 0
        · rw [if_pos c6] at H
          have c6b0 : decide ((Int.tmod (rd s0_0 s0_1) a1) < 0) = true := decide_eq_true c6
          clear c6
          simp only [Option.some.injEq, Prod.mk.injEq] at H
          obtain ⟨rfl, rfl⟩ := H
          obtain ⟨ASz7_0, cSz7_0, HGz7, hgz7, HSz7_0⟩ := HI0.out
          have hcz7_0 := cellS60_0 HGz7
          have hcz7_1 := cellS60_1 HGz7
          have hfz7_1 := blk_frozen HGz7 1
          clear HGz7 hgz7
          have p136 : 0 ≤ (s0_1 : Int) := of_decide_eq_true (by first | (with_reducible assumption) | assumption)
          have q136 : s0_1 < (s0_0.length : Int) := of_decide_eq_true (by first | (with_reducible assumption) | assumption)
          obtain ⟨ad136, e136, hx136_0⟩ := Kd.at_int HSz7_0 s0_1 p136 q136
          cases e136
          replace hx136_0 := pw_cell_below HB.out hx136_0
          replace p136 := eq_true p136
          replace q136 := eq_true q136
          go_enter Try.func28, Try.ntmps28
          go_wp2
          repeat (go_quiet (fail); try go_wp2)
          go_ret
          exact ⟨by first | rfl | (simp [errW_none, errW_some] <;> rfl) | (simp [*, errW_none, errW_some] <;> rfl), by repeat (first | (with_reducible first | exact HI0.out | apply IsS60.alloc | apply IsS60.drewN | apply IsS60.drew | apply IsS60.set_1) | exact HI0.out), by repeat (first | (with_reducible first | exact HB.out | apply below_alloc | apply pw_below_drewN | apply below_drew1 | refine below_set ?_ (IsS60.ge HI0.out)) | exact HB.out), by repeat (first | (with_reducible first | exact HK.out | apply KeepBut.set_ | apply keep_drewN | apply keep_drew | apply keep_alloc) | exact HK.out)⟩
        · rw [if_neg c6] at H
          have c6b0 : decide ((Int.tmod (rd s0_0 s0_1) a1) < 0) = false := decide_eq_false c6
          clear c6
          simp only [Option.some.injEq, Prod.mk.injEq] at H
          obtain ⟨rfl, rfl⟩ := H
          obtain ⟨ASz8_0, cSz8_0, HGz8, hgz8, HSz8_0⟩ := HI0.out
          have hcz8_0 := cellS60_0 HGz8
          have hcz8_1 := cellS60_1 HGz8
          have hfz8_1 := blk_frozen HGz8 1
          clear HGz8 hgz8
          have p136 : 0 ≤ (s0_1 : Int) := of_decide_eq_true (by first | (with_reducible assumption) | assumption)
          have q136 : s0_1 < (s0_0.length : Int) := of_decide_eq_true (by first | (with_reducible assumption) | assumption)
          obtain ⟨ad136, e136, hx136_0⟩ := Kd.at_int HSz8_0 s0_1 p136 q136
          cases e136
          replace hx136_0 := pw_cell_below HB.out hx136_0
          replace p136 := eq_true p136
          replace q136 := eq_true q136
          go_enter Try.func28, Try.ntmps28
          go_wp2
          repeat (go_quiet (fail); try go_wp2)
          go_ret
          exact ⟨by first | rfl | (simp [errW_none, errW_some] <;> rfl) | (simp [*, errW_none, errW_some] <;> rfl), by repeat (first | (with_reducible first | exact HI0.out | apply IsS60.alloc | apply IsS60.drewN | apply IsS60.drew | apply IsS60.set_1) | exact HI0.out), by repeat (first | (with_reducible first | exact HB.out | apply below_alloc | apply pw_below_drewN | apply below_drew1 | refine below_set ?_ (IsS60.ge HI0.out)) | exact HB.out), by repeat (first | (with_reducible first | exact HK.out | apply KeepBut.set_ | apply keep_drewN | apply keep_drew | apply keep_alloc) | exact HK.out)⟩
    · rw [if_neg c4] at H
      exact absurd H (by simp)
  · rw [if_neg c3] at H
    have c3b0 : decide (s0_1 < (s0_0.length : Int)) = false := decide_eq_false c3
    clear c3
    by_cases c9 : a1 = 0
    · rw [if_pos c9] at H
      exact absurd H (by simp)
    · rw [if_neg c9] at H
      have c9b0 : (a1 == 0) = false := beq_eq_false_iff_ne.mpr c9
      have c9b1 : (a1 != 0) = true := bne_iff_ne.mpr c9
      by_cases c10 : (Int.tmod (wrap64 ((wrap64 (5 * s0_1)) + 2)) a1) < 0
      · rw [if_pos c10] at H
        have c10b0 : decide ((Int.tmod (wrap64 ((wrap64 (5 * s0_1)) + 2)) a1) < 0) = true := decide_eq_true c10
        clear c10
        simp only [Option.some.injEq, Prod.mk.injEq] at H
        obtain ⟨rfl, rfl⟩ := H
        obtain ⟨ASz11_0, cSz11_0, HGz11, hgz11, HSz11_0⟩ := HI0.out
        have hcz11_0 := cellS60_0 HGz11
        have hcz11_1 := cellS60_1 HGz11
        have hfz11_1 := blk_frozen HGz11 1
        clear HGz11 hgz11
        go_enter Try.func28, Try.ntmps28
        go_wp2
        repeat (go_quiet (fail); try go_wp2)
        go_ret
        exact ⟨by first | rfl | (simp [errW_none, errW_some] <;> rfl) | (simp [*, errW_none, errW_some] <;> rfl), by repeat (first | (with_reducible first | exact HI0.out | apply IsS60.alloc | apply IsS60.drewN | apply IsS60.drew | apply IsS60.set_1) | exact HI0.out), by repeat (first | (with_reducible first | exact HB.out | apply below_alloc | apply pw_below_drewN | apply below_drew1 | refine below_set ?_ (IsS60.ge HI0.out)) | exact HB.out), by repeat (first | (with_reducible first | exact HK.out | apply KeepBut.set_ | apply keep_drewN | apply keep_drew | apply keep_alloc) | exact HK.out)⟩
      · rw [if_neg c10] at H
        have c10b0 : decide ((Int.tmod (wrap64 ((wrap64 (5 * s0_1)) + 2)) a1) < 0) = false := decide_eq_false c10
        clear c10
        simp only [Option.some.injEq, Prod.mk.injEq] at H
        obtain ⟨rfl, rfl⟩ := H
        obtain ⟨ASz12_0, cSz12_0, HGz12, hgz12, HSz12_0⟩ := HI0.out
        have hcz12_0 := cellS60_0 HGz12
        have hcz12_1 := cellS60_1 HGz12
        have hfz12_1 := blk_frozen HGz12 1
        clear HGz12 hgz12
        go_enter Try.func28, Try.ntmps28
        go_wp2
        repeat (go_quiet (fail); try go_wp2)
        go_ret
        exact ⟨by first | rfl | (simp [errW_none, errW_some] <;> rfl) | (simp [*, errW_none, errW_some] <;> rfl), by repeat (first | (with_reducible first | exact HI0.out | apply IsS60.alloc | apply IsS60.drewN | apply IsS60.drew | apply IsS60.set_1) | exact HI0.out), by repeat (first | (with_reducible first | exact HB.out | apply below_alloc | apply pw_below_drewN | apply below_drew1 | refine below_set ?_ (IsS60.ge HI0.out)) | exact HB.out), by repeat (first | (with_reducible first | exact HK.out | apply KeepBut.set_ | apply keep_drewN | apply keep_drew | apply keep_alloc) | exact HK.out)⟩

/-! ### paygen_Deck_Pick: function 15 -/
def paygen_Deck_Pick.f (s0_0 : List Int) (s0_1 : Int) (l1 : List Int) : Option (Int × Int) := (paygen_Deck_Next.f s0_0 s0_1 (l1.length : Int)).bind fun bt137 => (if 0 ≤ bt137.1 then (if bt137.1 < (l1.length : Int) then (some (rd l1 bt137.1, bt137.2)) else (none)) else (none))
set_option maxHeartbeats 8000000 in
set_option maxRecDepth 100000 in
theorem paygen_Deck_Pick.calls (g : Nat) (s0_0 : List Int) (s0_1 : Int) (A1 : Option Addr) (c1 : Nat) (l1 : List Int) (r1 : Int) (r2 : Int) (w0 w : World) (hI : IsS60 w0 w g s0_0 s0_1) (hB : Below w0.heap.size w0 w) (hr1 : Kd.C (Kd.int .i64) w A1 l1.length l1) (hc1 : l1.length ≤ c1) (hf1 : ∀ ad, A1 = some ad → 0 < l1.length → ad.block ≠ g) (h : paygen_Deck_Pick.f s0_0 s0_1 l1 = some (r1, r2)) :
    Calls Try.prog 15 #[.pointer (some ⟨g, 0, none⟩), .slice A1 l1.length c1] w fun e w' => e = .returned (.int .i64 r1) ∧ IsS60 w0 w' g s0_0 r2 ∧ Below w0.heap.size w0 w' ∧ KeepBut w w' g none := by
  have HR1 := Aside0.mk hr1
  have HC1 := Aside0.mk hc1
  clear hr1 hc1
  have HI0 := Aside0.mk hI
  have HK := Aside0.mk (KeepBut.refl w g none)
  have HL := Aside0.mk hB.size
  clear hI
  have HW0 := Aside0.mk hB.size
  have HB := Aside0.mk hB
  clear hB
  have H : ((paygen_Deck_Next.f s0_0 s0_1 (l1.length : Int)).bind fun bt137 => (if 0 ≤ bt137.1 then (if bt137.1 < (l1.length : Int) then (some (rd l1 bt137.1, bt137.2)) else (none)) else (none))) = some (r1, r2) := h
  clear h
  replace H := Option.bind_eq_some_iff.mp H
  obtain ⟨⟨t137, t138⟩, A30, H⟩ := H
  replace H : (if 0 ≤ t137 then (if t137 < (l1.length : Int) then (some (rd l1 t137, t138)) else (none)) else (none)) = some (r1, r2) := H
  have A3 := Aside0.mk A30
  clear A30
  by_cases c4 : 0 ≤ t137
  · rw [if_pos c4] at H
    have c4b0 : decide (0 ≤ t137) = true := decide_eq_true c4
    clear c4
    by_cases c5 : t137 < (l1.length : Int)
    · rw [if_pos c5] at H
      have c5b0 : decide (t137 < (l1.length : Int)) = true := decide_eq_true c5
      clear c5
      simp only [Option.some.injEq, Prod.mk.injEq] at H
      obtain ⟨rfl, rfl⟩ := H
      go_enter Try.func15, Try.ntmps15
      go_wp2_with (first | ((with_reducible refine gate_callee (f := 28) rfl ?_); refine goesL_ (some 9) rfl rfl Try.func28 (by kernel_rfl) rfl #[.pointer (some ⟨g, 0, none⟩), .int .i64 (l1.length : Int)] rfl (by (try simp only [List.map_toArray, List.map_cons, List.map_nil]); first | done | rfl | (simp only [List.length_drop, List.length_take]; rfl)) ?_; (with_reducible refine (paygen_Deck_Next.calls g s0_0 s0_1 (l1.length : Int) t137 t138 w0 _ ?side1 ?side2 A3.out).mono ?_); (case side1 => repeat (first | (with_reducible first | exact HI0.out | apply IsS60.alloc | apply IsS60.drewN | apply IsS60.drew | apply IsS60.set_1) | exact HI0.out)); (case side2 => repeat (first | (with_reducible first | exact HB.out | apply below_alloc | apply pw_below_drewN | apply below_drew1 | refine below_set ?_ (IsS60.ge HI0.out)) | exact HB.out)); rintro e w6 ⟨rfl, hi, hb, hk⟩; refine ⟨_, rfl, ?_⟩; have n0_ := Aside0.mk (KeepBut.trans (by repeat (first | (with_reducible first | exact HK.out | apply KeepBut.set_ | apply keep_drewN | apply keep_drew | apply keep_alloc) | exact HK.out)) hk (.inl rfl)); have n1_ := Aside0.mk (hb); have n2_ := Aside0.mk (hi); clear HK; clear HB; clear HI0; have HK := n0_; have HB := n1_; have HI0 := n2_; clear n0_ n1_ n2_; (try clear hb); (try clear hb2); (try clear hk); (try clear hi); have p139 : 0 ≤ (t137 : Int) := of_decide_eq_true (by first | (with_reducible assumption) | assumption); have q139 : t137 < (l1.length : Int) := of_decide_eq_true (by first | (with_reducible assumption) | assumption); obtain ⟨ad139, e139, hx139_0⟩ := Kd.at_int HR1.out t137 p139 q139; cases e139; replace hx139_0 := keep_cell HK.out hx139_0 (by first | (rw [add_block]; exact hf1 _ rfl (by omega)) | exact hf1 _ rfl (by omega) | exact hf1 ad139 rfl (by omega)); replace p139 := eq_true p139; replace q139 := eq_true q139))
      go_ret
      exact ⟨by first | rfl | (simp [errW_none, errW_some] <;> rfl) | (simp [*, errW_none, errW_some] <;> rfl), by repeat (first | (with_reducible first | exact HI0.out | apply IsS60.alloc | apply IsS60.drewN | apply IsS60.drew | apply IsS60.set_1) | exact HI0.out), by repeat (first | (with_reducible first | exact HB.out | apply below_alloc | apply pw_below_drewN | apply below_drew1 | refine below_set ?_ (IsS60.ge HI0.out)) | exact HB.out), by repeat (first | (with_reducible first | exact HK.out | apply KeepBut.set_ | apply keep_drewN | apply keep_drew | apply keep_alloc) | exact HK.out)⟩
    · rw [if_neg c5] at H
      exact absurd H (by simp)
  · rw [if_neg c4] at H
    exact absurd H (by simp)

/-! ### paygen_Deck_Small: function 20 -/
def paygen_Deck_Small.f (s0_0 : List Int) (s0_1 : Int) : Option (Int × Int) := (paygen_Deck_Next.f s0_0 s0_1 5).bind fun bt140 => (if bt140.1 = 0 then ((paygen_Deck_Pick.f s0_0 bt140.2 (([0, 0, 1, 100] : List Int))).bind fun bt145 => (some (bt145.1, bt145.2))) else ((paygen_Deck_Next.f s0_0 bt140.2 600000).bind fun bt147 => (some (bt147.1, bt147.2))))
set_option maxHeartbeats 8000000 in
set_option maxRecDepth 100000 in
theorem paygen_Deck_Small.calls (g : Nat) (s0_0 : List Int) (s0_1 : Int) (r1 : Int) (r2 : Int) (w0 w : World) (hI : IsS60 w0 w g s0_0 s0_1) (hB : Below w0.heap.size w0 w) (h : paygen_Deck_Small.f s0_0 s0_1 = some (r1, r2)) :
    Calls Try.prog 20 #[.pointer (some ⟨g, 0, none⟩)] w fun e w' => e = .returned (.int .i64 r1) ∧ IsS60 w0 w' g s0_0 r2 ∧ Below w0.heap.size w0 w' ∧ KeepBut w w' g none := by
  have HI0 := Aside0.mk hI
  have HK := Aside0.mk (KeepBut.refl w g none)
  have HL := Aside0.mk hB.size
  clear hI
  have HW0 := Aside0.mk hB.size
  have HB := Aside0.mk hB
  clear hB
  have H : ((paygen_Deck_Next.f s0_0 s0_1 5).bind fun bt140 => (if bt140.1 = 0 then ((paygen_Deck_Pick.f s0_0 bt140.2 (([0, 0, 1, 100] : List Int))).bind fun bt145 => (some (bt145.1, bt145.2))) else ((paygen_Deck_Next.f s0_0 bt140.2 600000).bind fun bt147 => (some (bt147.1, bt147.2))))) = some (r1, r2) := h
  clear h
  replace H := Option.bind_eq_some_iff.mp H
  obtain ⟨⟨t140, t141⟩, A20, H⟩ := H
  replace H : (if t140 = 0 then ((paygen_Deck_Pick.f s0_0 t141 (([0, 0, 1, 100] : List Int))).bind fun bt145 => (some (bt145.1, bt145.2))) else ((paygen_Deck_Next.f s0_0 t141 600000).bind fun bt147 => (some (bt147.1, bt147.2)))) = some (r1, r2) := H
  have A2 := Aside0.mk A20
  clear A20
  by_cases c3 : t140 = 0
  · rw [if_pos c3] at H
    have c3b0 : (t140 == 0) = true := beq_iff_eq.mpr c3
    have c3b1 : (t140 != 0) = false := bne_eq_false_iff_eq.mpr c3
    clear c3
    obtain ⟨y142, hy142⟩ : ∃ y_ : List Int, y_ = (([0, 0, 1, 100] : List Int)) := ⟨_, rfl⟩
    replace H : ((paygen_Deck_Pick.f s0_0 t141 y142).bind fun bt145 => (some (bt145.1, bt145.2))) = some (r1, r2) := by first | (rw [hy142]; with_reducible exact H) | (have H2_ := (Option.bind_some _ _).symm.trans H; rw [hy142]; with_reducible exact H2_) | (have H2_ := (Option.bind_some _ _).symm.trans H; with_reducible exact H2_) | with_reducible exact H | (rw [hy142]; exact H) | exact H
    have Ny142 := Aside0.mk hy142
    clear hy142
    replace H := Option.bind_eq_some_iff.mp H
    obtain ⟨⟨t145, t146⟩, A40, H⟩ := H
    replace H : (some (t145, t146)) = some (r1, r2) := H
    have A4 := Aside0.mk A40
    clear A40
    simp only [Option.some.injEq, Prod.mk.injEq] at H
    obtain ⟨rfl, rfl⟩ := H
    go_enter Try.func20, Try.ntmps20
    go_wp2_with (first | ((with_reducible refine gate_callee (f := 28) rfl ?_); refine goesL_ (some 4) rfl rfl Try.func28 (by kernel_rfl) rfl #[.pointer (some ⟨g, 0, none⟩), .int .i64 5] rfl (by (try simp only [List.map_toArray, List.map_cons, List.map_nil]); first | done | rfl | (simp only [List.length_drop, List.length_take]; rfl)) ?_; (with_reducible refine (paygen_Deck_Next.calls g s0_0 s0_1 5 t140 t141 w0 _ ?side1 ?side2 A2.out).mono ?_); (case side1 => repeat (first | (with_reducible first | exact HI0.out | apply IsS60.alloc | apply IsS60.drewN | apply IsS60.drew | apply IsS60.set_1) | exact HI0.out)); (case side2 => repeat (first | (with_reducible first | exact HB.out | apply below_alloc | apply pw_below_drewN | apply below_drew1 | refine below_set ?_ (IsS60.ge HI0.out)) | exact HB.out)); rintro e w5 ⟨rfl, hi, hb, hk⟩; refine ⟨_, rfl, ?_⟩; have n0_ := Aside0.mk (KeepBut.trans (by repeat (first | (with_reducible first | exact HK.out | apply KeepBut.set_ | apply keep_drewN | apply keep_drew | apply keep_alloc) | exact HK.out)) hk (.inl rfl)); have n1_ := Aside0.mk (hb); have n2_ := Aside0.mk (hi); clear HK; clear HB; clear HI0; have HK := n0_; have HB := n1_; have HI0 := n2_; clear n0_ n1_ n2_; (try clear hb); (try clear hb2); (try clear hk); (try clear hi)) | ((with_reducible refine gate_dst (N := 7) rfl ?_); refine Kd.R_lit (Kd.int .i64) _ 3 ?hg (N := 7) ?hd (xs := ([0, 0, 1, 100] : List Int)) (inner := [.int .i64 0, .int .i64 0, .int .i64 1, .int .i64 100]) (ok := fun _ => True) (okp := fun _ => True) ?hr ?hp (fun _ hk => hk) trivial (Below.refl _ _) (Nat.le_refl _) (by simp) ?_; (case hd => rfl); (case hg => rfl); (case hr => first | (go_simp; done) | (go_simp; rfl)); (case hp => exact (Reps.one (show Kd.M (Kd.int .i64) _ _ _ 0 [.int .i64 0] from rfl) (Reps.one (show Kd.M (Kd.int .i64) _ _ _ 0 [.int .i64 0] from rfl) (Reps.one (show Kd.M (Kd.int .i64) _ _ _ 1 [.int .i64 1] from rfl) (Reps.one (show Kd.M (Kd.int .i64) _ _ _ 100 [.int .i64 100] from rfl) (Reps.none _ _)))))); intro v143 w6 ho7 hb hg_ hnew_; clear hg_ hnew_; (first | rw [← Ny142.out] at ho7 | (simp only [Int.reduceToNat] at ho7; rw [← Ny142.out] at ho7)); have n0_ := Aside0.mk (Kd.R_lower ho7 (keep_size (w := w) (g := g) (row := none) (by repeat (first | (with_reducible first | exact HK.out | apply KeepBut.set_ | apply keep_drewN | apply keep_drew | apply keep_alloc) | exact HK.out)))); have n1_ := Aside0.mk (IsS60.below (by repeat (first | (with_reducible first | exact HI0.out | apply IsS60.alloc | apply IsS60.drewN | apply IsS60.drew | apply IsS60.set_1) | exact HI0.out)) hb); have n2_ := Aside0.mk (KeepBut.trans (by repeat (first | (with_reducible first | exact HK.out | apply KeepBut.set_ | apply keep_drewN | apply keep_drew | apply keep_alloc) | exact HK.out)) (KeepBut.of_below hb g none) (.inl rfl)); have n3_ := Aside0.mk (below_step (by repeat (first | (with_reducible first | exact HB.out | apply below_alloc | apply pw_below_drewN | apply below_drew1 | refine below_set ?_ (IsS60.ge HI0.out)) | exact HB.out)) hb); clear HI0; clear HK; clear HB; have HO144 := n0_; have HI0 := n1_; have HK := n2_; have HB := n3_; clear n0_ n1_ n2_ n3_; clear hb ho7; obtain ⟨Ao8, co8, eo8⟩ := Kd.R_slice HO144.out; subst eo8) | ((with_reducible refine gate_callee (f := 15) rfl ?_); refine goesL_ (some 8) rfl rfl Try.func15 (by kernel_rfl) rfl #[.pointer (some ⟨g, 0, none⟩), .slice Ao8 y142.length co8] rfl (by (try simp only [List.map_toArray, List.map_cons, List.map_nil]); first | done | rfl | (simp only [List.length_drop, List.length_take]; rfl)) ?_; (with_reducible refine (paygen_Deck_Pick.calls g s0_0 t141 _ _ y142 t145 t146 w0 _ ?side1 ?side2 ?side3 ?side4 ?side5 A4.out).mono ?_); (case side1 => repeat (first | (with_reducible first | exact HI0.out | apply IsS60.alloc | apply IsS60.drewN | apply IsS60.drew | apply IsS60.set_1) | exact HI0.out)); (case side2 => repeat (first | (with_reducible first | exact HB.out | apply below_alloc | apply pw_below_drewN | apply below_drew1 | refine below_set ?_ (IsS60.ge HI0.out)) | exact HB.out)); (case side3 => repeat (first | exact (Kd.R_reads' HO144.out).2.2 | (with_reducible refine Kd.C_alloc ?_ _) | (with_reducible refine Kd.C_drewN ?_ _) | (with_reducible refine Kd.C_drew ?_))); (case side4 => exact (Kd.R_reads' HO144.out).2.1); (case side5 => exact far_slice (IsS60.own_ne HI0.out HO144.out (by decide))); rintro e w9 ⟨rfl, hi, hb, hk⟩; refine ⟨_, rfl, ?_⟩; have n0_ := Aside0.mk (Kd.R_mono (Kd.R_keep (IsS60.apart (show IsS60 w0 _ g s0_0 t141 from by repeat (first | (with_reducible first | exact HI0.out | apply IsS60.alloc | apply IsS60.drewN | apply IsS60.drew | apply IsS60.set_1) | exact HI0.out)) (by (with_reducible repeat (first | apply Kd.R_alloc | apply Kd.R_drewN | apply Kd.R_drew)); exact HO144.out) (by decide)) hk (fun _ h => h.2)) (fun _ h => h.1)); have n1_ := Aside0.mk (KeepBut.trans (by repeat (first | (with_reducible first | exact HK.out | apply KeepBut.set_ | apply keep_drewN | apply keep_drew | apply keep_alloc) | exact HK.out)) hk (.inl rfl)); have n2_ := Aside0.mk (hb); have n3_ := Aside0.mk (hi); clear HO144; clear HK; clear HB; clear HI0; have HO144 := n0_; have HK := n1_; have HB := n2_; have HI0 := n3_; clear n0_ n1_ n2_ n3_; (try clear hb); (try clear hb2); (try clear hk); (try clear hi)))
    go_ret
    exact ⟨by first | rfl | (simp [errW_none, errW_some] <;> rfl) | (simp [*, errW_none, errW_some] <;> rfl), by repeat (first | (with_reducible first | exact HI0.out | apply IsS60.alloc | apply IsS60.drewN | apply IsS60.drew | apply IsS60.set_1) | exact HI0.out), by repeat (first | (with_reducible first | exact HB.out | apply below_alloc | apply pw_below_drewN | apply below_drew1 | refine below_set ?_ (IsS60.ge HI0.out)) | exact HB.out), by repeat (first | (with_reducible first | exact HK.out | apply KeepBut.set_ | apply keep_drewN | apply keep_drew | apply keep_alloc) | exact HK.out)⟩
  · rw [if_neg c3] at H
    have c3b0 : (t140 == 0) = false := beq_eq_false_iff_ne.mpr c3
    have c3b1 : (t140 != 0) = true := bne_iff_ne.mpr c3
    replace H := Option.bind_eq_some_iff.mp H
    obtain ⟨⟨t147, t148⟩, A100, H⟩ := H
    replace H : (some (t147, t148)) = some (r1, r2) := H
    have A10 := Aside0.mk A100
    clear A100
    simp only [Option.some.injEq, Prod.mk.injEq] at H
    obtain ⟨rfl, rfl⟩ := H
    go_enter Try.func20, Try.ntmps20
    go_wp2_with (first | ((with_reducible refine gate_callee (f := 28) rfl ?_); refine goesL_ (some 4) rfl rfl Try.func28 (by kernel_rfl) rfl #[.pointer (some ⟨g, 0, none⟩), .int .i64 5] rfl (by (try simp only [List.map_toArray, List.map_cons, List.map_nil]); first | done | rfl | (simp only [List.length_drop, List.length_take]; rfl)) ?_; (with_reducible refine (paygen_Deck_Next.calls g s0_0 s0_1 5 t140 t141 w0 _ ?side1 ?side2 A2.out).mono ?_); (case side1 => repeat (first | (with_reducible first | exact HI0.out | apply IsS60.alloc | apply IsS60.drewN | apply IsS60.drew | apply IsS60.set_1) | exact HI0.out)); (case side2 => repeat (first | (with_reducible first | exact HB.out | apply below_alloc | apply pw_below_drewN | apply below_drew1 | refine below_set ?_ (IsS60.ge HI0.out)) | exact HB.out)); rintro e w11 ⟨rfl, hi, hb, hk⟩; refine ⟨_, rfl, ?_⟩; have n0_ := Aside0.mk (KeepBut.trans (by repeat (first | (with_reducible first | exact HK.out | apply KeepBut.set_ | apply keep_drewN | apply keep_drew | apply keep_alloc) | exact HK.out)) hk (.inl rfl)); have n1_ := Aside0.mk (hb); have n2_ := Aside0.mk (hi); clear HK; clear HB; clear HI0; have HK := n0_; have HB := n1_; have HI0 := n2_; clear n0_ n1_ n2_; (try clear hb); (try clear hb2); (try clear hk); (try clear hi)) | ((with_reducible refine gate_callee (f := 28) rfl ?_); refine goesL_ (some 10) rfl rfl Try.func28 (by kernel_rfl) rfl #[.pointer (some ⟨g, 0, none⟩), .int .i64 600000] rfl (by (try simp only [List.map_toArray, List.map_cons, List.map_nil]); first | done | rfl | (simp only [List.length_drop, List.length_take]; rfl)) ?_; (with_reducible refine (paygen_Deck_Next.calls g s0_0 t141 600000 t147 t148 w0 _ ?side1 ?side2 A10.out).mono ?_); (case side1 => repeat (first | (with_reducible first | exact HI0.out | apply IsS60.alloc | apply IsS60.drewN | apply IsS60.drew | apply IsS60.set_1) | exact HI0.out)); (case side2 => repeat (first | (with_reducible first | exact HB.out | apply below_alloc | apply pw_below_drewN | apply below_drew1 | refine below_set ?_ (IsS60.ge HI0.out)) | exact HB.out)); rintro e w12 ⟨rfl, hi, hb, hk⟩; refine ⟨_, rfl, ?_⟩; have n0_ := Aside0.mk (KeepBut.trans (by repeat (first | (with_reducible first | exact HK.out | apply KeepBut.set_ | apply keep_drewN | apply keep_drew | apply keep_alloc) | exact HK.out)) hk (.inl rfl)); have n1_ := Aside0.mk (hb); have n2_ := Aside0.mk (hi); clear HK; clear HB; clear HI0; have HK := n0_; have HB := n1_; have HI0 := n2_; clear n0_ n1_ n2_; (try clear hb); (try clear hb2); (try clear hk); (try clear hi)))
    go_ret
    exact ⟨by first | rfl | (simp [errW_none, errW_some] <;> rfl) | (simp [*, errW_none, errW_some] <;> rfl), by repeat (first | (with_reducible first | exact HI0.out | apply IsS60.alloc | apply IsS60.drewN | apply IsS60.drew | apply IsS60.set_1) | exact HI0.out), by repeat (first | (with_reducible first | exact HB.out | apply below_alloc | apply pw_below_drewN | apply below_drew1 | refine below_set ?_ (IsS60.ge HI0.out)) | exact HB.out), by repeat (first | (with_reducible first | exact HK.out | apply KeepBut.set_ | apply keep_drewN | apply keep_drew | apply keep_alloc) | exact HK.out)⟩

/-! ### payrollref32_Bare: function 48 -/
def payrollref32_Bare.f (a0 : Int) : Option (Bool) := if a0 = 6 then (some true) else (if a0 = 9 then (some true) else (some (a0 == 10)))
set_option maxHeartbeats 8000000 in
set_option maxRecDepth 100000 in
theorem payrollref32_Bare.calls (a0 : Int) (r : Bool) (w : World) (h : payrollref32_Bare.f a0 = some r) :
    Calls Try.prog 48 #[.int .i64 a0] w fun e w' => e = .returned (.bool r) ∧ Drawn0 w w' := by
  have H : (if a0 = 6 then (some true) else (if a0 = 9 then (some true) else (some (a0 == 10)))) = some r := h
  clear h
  by_cases c2 : a0 = 6
  · rw [if_pos c2] at H
    have c2b0 : (a0 == 6) = true := beq_iff_eq.mpr c2
    have c2b1 : (a0 != 6) = false := bne_eq_false_iff_eq.mpr c2
    clear c2
    obtain rfl := Option.some.inj H
    go_enter Try.func48, Try.ntmps48
    go_wp2
    go_ret
    exact ⟨by first | rfl | (simp; done) | (simp [*]; done), by repeat (first | exact Drawn0.refl _ | apply Drawn0.step)⟩
  · rw [if_neg c2] at H
    have c2b0 : (a0 == 6) = false := beq_eq_false_iff_ne.mpr c2
    have c2b1 : (a0 != 6) = true := bne_iff_ne.mpr c2
    by_cases c3 : a0 = 9
    · rw [if_pos c3] at H
      have c3b0 : (a0 == 9) = true := beq_iff_eq.mpr c3
      have c3b1 : (a0 != 9) = false := bne_eq_false_iff_eq.mpr c3
      clear c3
      obtain rfl := Option.some.inj H
      go_enter Try.func48, Try.ntmps48
      go_wp2
      go_ret
      exact ⟨by first | rfl | (simp; done) | (simp [*]; done), by repeat (first | exact Drawn0.refl _ | apply Drawn0.step)⟩
    · rw [if_neg c3] at H
      have c3b0 : (a0 == 9) = false := beq_eq_false_iff_ne.mpr c3
      have c3b1 : (a0 != 9) = true := bne_iff_ne.mpr c3
      obtain rfl := Option.some.inj H
      go_enter Try.func48, Try.ntmps48
      go_wp2
      go_ret
      exact ⟨by first | rfl | (simp; done) | (simp [*]; done), by repeat (first | exact Drawn0.refl _ | apply Drawn0.step)⟩

/-! ### paygen_Deck_Code: function 49 -/
def paygen_Deck_Code.f (s0_0 : List Int) (s0_1 : Int) : Option (ByteArray × Int) := (some (([(⟨#[98, 111, 110, 117, 115]⟩ : ByteArray), (⟨#[99, 97, 114]⟩ : ByteArray), (⟨#[110, 105, 103, 104, 116]⟩ : ByteArray), (⟨#[115, 97, 108, 97, 114, 121]⟩ : ByteArray), (⟨#[97]⟩ : ByteArray), (⟨#[98]⟩ : ByteArray), (⟨#[120, 49]⟩ : ByteArray), (⟨#[97, 98, 99, 100, 101, 102, 103, 104, 105, 106, 107, 108, 109, 110, 111, 112, 113, 114, 115, 116, 117, 118, 119, 120]⟩ : ByteArray)] : List ByteArray) : List ByteArray)).bind fun y149 => ((paygen_Deck_Next.f s0_0 s0_1 8).bind fun bt152 => (if 0 ≤ bt152.1 then (if bt152.1 < (y149.length : Int) then (some (rdOf ByteArray.empty y149 bt152.1, bt152.2)) else (none)) else (none)))
set_option maxHeartbeats 8000000 in
set_option maxRecDepth 100000 in
theorem paygen_Deck_Code.calls (g : Nat) (s0_0 : List Int) (s0_1 : Int) (r1 : ByteArray) (r2 : Int) (w0 w : World) (hI : IsS60 w0 w g s0_0 s0_1) (hB : Below w0.heap.size w0 w) (h : paygen_Deck_Code.f s0_0 s0_1 = some (r1, r2)) :
    Calls Try.prog 49 #[.pointer (some ⟨g, 0, none⟩)] w fun e w' => e = .returned (.string r1) ∧ IsS60 w0 w' g s0_0 r2 ∧ Below w0.heap.size w0 w' ∧ KeepBut w w' g none := by
  have HI0 := Aside0.mk hI
  have HK := Aside0.mk (KeepBut.refl w g none)
  have HL := Aside0.mk hB.size
  clear hI
  have HW0 := Aside0.mk hB.size
  have HB := Aside0.mk hB
  clear hB
  have H : ((some (([(⟨#[98, 111, 110, 117, 115]⟩ : ByteArray), (⟨#[99, 97, 114]⟩ : ByteArray), (⟨#[110, 105, 103, 104, 116]⟩ : ByteArray), (⟨#[115, 97, 108, 97, 114, 121]⟩ : ByteArray), (⟨#[97]⟩ : ByteArray), (⟨#[98]⟩ : ByteArray), (⟨#[120, 49]⟩ : ByteArray), (⟨#[97, 98, 99, 100, 101, 102, 103, 104, 105, 106, 107, 108, 109, 110, 111, 112, 113, 114, 115, 116, 117, 118, 119, 120]⟩ : ByteArray)] : List ByteArray) : List ByteArray)).bind fun y149 => ((paygen_Deck_Next.f s0_0 s0_1 8).bind fun bt152 => (if 0 ≤ bt152.1 then (if bt152.1 < (y149.length : Int) then (some (rdOf ByteArray.empty y149 bt152.1, bt152.2)) else (none)) else (none)))) = some (r1, r2) := h
  clear h
  obtain ⟨y149, hy149⟩ : ∃ y_ : List ByteArray, y_ = (([(⟨#[98, 111, 110, 117, 115]⟩ : ByteArray), (⟨#[99, 97, 114]⟩ : ByteArray), (⟨#[110, 105, 103, 104, 116]⟩ : ByteArray), (⟨#[115, 97, 108, 97, 114, 121]⟩ : ByteArray), (⟨#[97]⟩ : ByteArray), (⟨#[98]⟩ : ByteArray), (⟨#[120, 49]⟩ : ByteArray), (⟨#[97, 98, 99, 100, 101, 102, 103, 104, 105, 106, 107, 108, 109, 110, 111, 112, 113, 114, 115, 116, 117, 118, 119, 120]⟩ : ByteArray)] : List ByteArray)) := ⟨_, rfl⟩
  replace H : ((paygen_Deck_Next.f s0_0 s0_1 8).bind fun bt152 => (if 0 ≤ bt152.1 then (if bt152.1 < (y149.length : Int) then (some (rdOf ByteArray.empty y149 bt152.1, bt152.2)) else (none)) else (none))) = some (r1, r2) := by first | (rw [hy149]; with_reducible exact H) | (have H2_ := (Option.bind_some _ _).symm.trans H; rw [hy149]; with_reducible exact H2_) | (have H2_ := (Option.bind_some _ _).symm.trans H; with_reducible exact H2_) | with_reducible exact H | (rw [hy149]; exact H) | exact H
  have Ny149 := Aside0.mk hy149
  clear hy149
  replace H := Option.bind_eq_some_iff.mp H
  obtain ⟨⟨t152, t153⟩, A20, H⟩ := H
  replace H : (if 0 ≤ t152 then (if t152 < (y149.length : Int) then (some (rdOf ByteArray.empty y149 t152, t153)) else (none)) else (none)) = some (r1, r2) := H
  have A2 := Aside0.mk A20
  clear A20
  by_cases c3 : 0 ≤ t152
  · rw [if_pos c3] at H
    have c3b0 : decide (0 ≤ t152) = true := decide_eq_true c3
    clear c3
    by_cases c4 : t152 < (y149.length : Int)
    · rw [if_pos c4] at H
      have c4b0 : decide (t152 < (y149.length : Int)) = true := decide_eq_true c4
      clear c4
      simp only [Option.some.injEq, Prod.mk.injEq] at H
      obtain ⟨rfl, rfl⟩ := H
      go_enter Try.func49, Try.ntmps49
      go_wp2_with (first | ((with_reducible refine gate_dst (N := 3) rfl ?_); refine Kd.R_lit Kd.string _ 9 ?hg (N := 3) ?hd (xs := ([(⟨#[98, 111, 110, 117, 115]⟩ : ByteArray), (⟨#[99, 97, 114]⟩ : ByteArray), (⟨#[110, 105, 103, 104, 116]⟩ : ByteArray), (⟨#[115, 97, 108, 97, 114, 121]⟩ : ByteArray), (⟨#[97]⟩ : ByteArray), (⟨#[98]⟩ : ByteArray), (⟨#[120, 49]⟩ : ByteArray), (⟨#[97, 98, 99, 100, 101, 102, 103, 104, 105, 106, 107, 108, 109, 110, 111, 112, 113, 114, 115, 116, 117, 118, 119, 120]⟩ : ByteArray)] : List ByteArray)) (inner := [.string (⟨#[98, 111, 110, 117, 115]⟩ : ByteArray), .string (⟨#[99, 97, 114]⟩ : ByteArray), .string (⟨#[110, 105, 103, 104, 116]⟩ : ByteArray), .string (⟨#[115, 97, 108, 97, 114, 121]⟩ : ByteArray), .string (⟨#[97]⟩ : ByteArray), .string (⟨#[98]⟩ : ByteArray), .string (⟨#[120, 49]⟩ : ByteArray), .string (⟨#[97, 98, 99, 100, 101, 102, 103, 104, 105, 106, 107, 108, 109, 110, 111, 112, 113, 114, 115, 116, 117, 118, 119, 120]⟩ : ByteArray)]) (ok := fun _ => True) (okp := fun _ => True) ?hr ?hp (fun _ hk => hk) trivial (Below.refl _ _) (Nat.le_refl _) (by simp) ?_; (case hd => rfl); (case hg => rfl); (case hr => first | (go_simp; done) | (go_simp; rfl)); (case hp => exact (Reps.one (show Kd.M Kd.string _ _ _ (⟨#[98, 111, 110, 117, 115]⟩ : ByteArray) [.string (⟨#[98, 111, 110, 117, 115]⟩ : ByteArray)] from rfl) (Reps.one (show Kd.M Kd.string _ _ _ (⟨#[99, 97, 114]⟩ : ByteArray) [.string (⟨#[99, 97, 114]⟩ : ByteArray)] from rfl) (Reps.one (show Kd.M Kd.string _ _ _ (⟨#[110, 105, 103, 104, 116]⟩ : ByteArray) [.string (⟨#[110, 105, 103, 104, 116]⟩ : ByteArray)] from rfl) (Reps.one (show Kd.M Kd.string _ _ _ (⟨#[115, 97, 108, 97, 114, 121]⟩ : ByteArray) [.string (⟨#[115, 97, 108, 97, 114, 121]⟩ : ByteArray)] from rfl) (Reps.one (show Kd.M Kd.string _ _ _ (⟨#[97]⟩ : ByteArray) [.string (⟨#[97]⟩ : ByteArray)] from rfl) (Reps.one (show Kd.M Kd.string _ _ _ (⟨#[98]⟩ : ByteArray) [.string (⟨#[98]⟩ : ByteArray)] from rfl) (Reps.one (show Kd.M Kd.string _ _ _ (⟨#[120, 49]⟩ : ByteArray) [.string (⟨#[120, 49]⟩ : ByteArray)] from rfl) (Reps.one (show Kd.M Kd.string _ _ _ (⟨#[97, 98, 99, 100, 101, 102, 103, 104, 105, 106, 107, 108, 109, 110, 111, 112, 113, 114, 115, 116, 117, 118, 119, 120]⟩ : ByteArray) [.string (⟨#[97, 98, 99, 100, 101, 102, 103, 104, 105, 106, 107, 108, 109, 110, 111, 112, 113, 114, 115, 116, 117, 118, 119, 120]⟩ : ByteArray)] from rfl) (Reps.none _ _)))))))))); intro v150 w5 ho6 hb hg_ hnew_; clear hg_ hnew_; (first | rw [← Ny149.out] at ho6 | (simp only [Int.reduceToNat] at ho6; rw [← Ny149.out] at ho6)); have n0_ := Aside0.mk (Kd.R_lower ho6 (keep_size (w := w) (g := g) (row := none) (by repeat (first | (with_reducible first | exact HK.out | apply KeepBut.set_ | apply keep_drewN | apply keep_drew | apply keep_alloc) | exact HK.out)))); have n1_ := Aside0.mk (IsS60.below (by repeat (first | (with_reducible first | exact HI0.out | apply IsS60.alloc | apply IsS60.drewN | apply IsS60.drew | apply IsS60.set_1) | exact HI0.out)) hb); have n2_ := Aside0.mk (KeepBut.trans (by repeat (first | (with_reducible first | exact HK.out | apply KeepBut.set_ | apply keep_drewN | apply keep_drew | apply keep_alloc) | exact HK.out)) (KeepBut.of_below hb g none) (.inl rfl)); have n3_ := Aside0.mk (below_step (by repeat (first | (with_reducible first | exact HB.out | apply below_alloc | apply pw_below_drewN | apply below_drew1 | refine below_set ?_ (IsS60.ge HI0.out)) | exact HB.out)) hb); clear HI0; clear HK; clear HB; have HO151 := n0_; have HI0 := n1_; have HK := n2_; have HB := n3_; clear n0_ n1_ n2_ n3_; clear hb ho6) | ((with_reducible refine gate_callee (f := 28) rfl ?_); refine goesL_ (some 5) rfl rfl Try.func28 (by kernel_rfl) rfl #[.pointer (some ⟨g, 0, none⟩), .int .i64 8] rfl (by (try simp only [List.map_toArray, List.map_cons, List.map_nil]); first | done | rfl | (simp only [List.length_drop, List.length_take]; rfl)) ?_; (with_reducible refine (paygen_Deck_Next.calls g s0_0 s0_1 8 t152 t153 w0 _ ?side1 ?side2 A2.out).mono ?_); (case side1 => repeat (first | (with_reducible first | exact HI0.out | apply IsS60.alloc | apply IsS60.drewN | apply IsS60.drew | apply IsS60.set_1) | exact HI0.out)); (case side2 => repeat (first | (with_reducible first | exact HB.out | apply below_alloc | apply pw_below_drewN | apply below_drew1 | refine below_set ?_ (IsS60.ge HI0.out)) | exact HB.out)); rintro e w7 ⟨rfl, hi, hb, hk⟩; refine ⟨_, rfl, ?_⟩; have n0_ := Aside0.mk (Kd.R_mono (Kd.R_keep (IsS60.apart (show IsS60 w0 _ g s0_0 s0_1 from by repeat (first | (with_reducible first | exact HI0.out | apply IsS60.alloc | apply IsS60.drewN | apply IsS60.drew | apply IsS60.set_1) | exact HI0.out)) (by (with_reducible repeat (first | apply Kd.R_alloc | apply Kd.R_drewN | apply Kd.R_drew)); exact HO151.out) (by decide)) hk (fun _ h => h.2)) (fun _ h => h.1)); have n1_ := Aside0.mk (KeepBut.trans (by repeat (first | (with_reducible first | exact HK.out | apply KeepBut.set_ | apply keep_drewN | apply keep_drew | apply keep_alloc) | exact HK.out)) hk (.inl rfl)); have n2_ := Aside0.mk (hb); have n3_ := Aside0.mk (hi); clear HO151; clear HK; clear HB; clear HI0; have HO151 := n0_; have HK := n1_; have HB := n2_; have HI0 := n3_; clear n0_ n1_ n2_ n3_; (try clear hb); (try clear hb2); (try clear hk); (try clear hi); obtain ⟨Ao8, co8, eo8⟩ := Kd.R_slice HO151.out; subst eo8; have p154 : 0 ≤ (t152 : Int) := of_decide_eq_true (by first | (with_reducible assumption) | assumption); have q154 : t152 < (y149.length : Int) := of_decide_eq_true (by first | (with_reducible assumption) | assumption); obtain ⟨ad154, e154, hx154_0⟩ := Kd.at_string (Kd.R_reads' HO151.out).2.2 t152 p154 q154; cases e154; replace p154 := eq_true p154; replace q154 := eq_true q154))
      go_ret
      exact ⟨by first | rfl | (simp [errW_none, errW_some] <;> rfl) | (simp [*, errW_none, errW_some] <;> rfl), by repeat (first | (with_reducible first | exact HI0.out | apply IsS60.alloc | apply IsS60.drewN | apply IsS60.drew | apply IsS60.set_1) | exact HI0.out), by repeat (first | (with_reducible first | exact HB.out | apply below_alloc | apply pw_below_drewN | apply below_drew1 | refine below_set ?_ (IsS60.ge HI0.out)) | exact HB.out), by repeat (first | (with_reducible first | exact HK.out | apply KeepBut.set_ | apply keep_drewN | apply keep_drew | apply keep_alloc) | exact HK.out)⟩
    · rw [if_neg c4] at H
      exact absurd H (by simp)
  · rw [if_neg c3] at H
    exact absurd H (by simp)

/-! ### paygen_Deck_Line: function 34 -/
def paygen_Deck_Line.f (s0_0 : List Int) (s0_1 : Int) : Option (Int × ByteArray × Int × Int) := (paygen_Deck_Next.f s0_0 s0_1 10).bind fun bt156 => ((paygen_Deck_Small.f s0_0 bt156.2).bind fun bt158 => ((payrollref32_Bare.f (wrap64 (1 + bt156.1))).bind fun t161 => (if t161 = true then ((paygen_Deck_Next.f s0_0 bt158.2 3).bind fun bt162 => (if bt162.1 = 0 then (some (wrap64 (1 + bt156.1), (⟨#[]⟩ : ByteArray), wrap64 (-(wrap64 (1 + bt158.1))), bt162.2)) else (some (wrap64 (1 + bt156.1), (⟨#[]⟩ : ByteArray), wrap64 (1 + bt158.1), bt162.2)))) else ((paygen_Deck_Code.f s0_0 bt158.2).bind fun bt164 => ((paygen_Deck_Next.f s0_0 bt164.2 3).bind fun bt166 => (if bt166.1 = 0 then (some (wrap64 (1 + bt156.1), bt164.1, wrap64 (-(wrap64 (1 + bt158.1))), bt166.2)) else (some (wrap64 (1 + bt156.1), bt164.1, wrap64 (1 + bt158.1), bt166.2))))))))
set_option maxHeartbeats 8000000 in
set_option maxRecDepth 100000 in
theorem paygen_Deck_Line.calls (g : Nat) (s0_0 : List Int) (s0_1 : Int) (r1 : Int) (r2 : ByteArray) (r3 : Int) (r4 : Int) (w0 w : World) (hI : IsS60 w0 w g s0_0 s0_1) (hB : Below w0.heap.size w0 w) (h : paygen_Deck_Line.f s0_0 s0_1 = some (r1, r2, r3, r4)) :
    Calls Try.prog 34 #[.pointer (some ⟨g, 0, none⟩)] w fun e w' => e = .returned (.agg #[.int .i64 r1, .string r2, .int .i64 r3]) ∧ IsS60 w0 w' g s0_0 r4 ∧ Below w0.heap.size w0 w' ∧ KeepBut w w' g none := by
  have hu56 := Try.underlying56
  have HI0 := Aside0.mk hI
  have HK := Aside0.mk (KeepBut.refl w g none)
  have HL := Aside0.mk hB.size
  clear hI
  have HW0 := Aside0.mk hB.size
  have HB := Aside0.mk hB
  clear hB
  have H : ((paygen_Deck_Next.f s0_0 s0_1 10).bind fun bt156 => ((paygen_Deck_Small.f s0_0 bt156.2).bind fun bt158 => ((payrollref32_Bare.f (wrap64 (1 + bt156.1))).bind fun t161 => (if t161 = true then ((paygen_Deck_Next.f s0_0 bt158.2 3).bind fun bt162 => (if bt162.1 = 0 then (some (wrap64 (1 + bt156.1), (⟨#[]⟩ : ByteArray), wrap64 (-(wrap64 (1 + bt158.1))), bt162.2)) else (some (wrap64 (1 + bt156.1), (⟨#[]⟩ : ByteArray), wrap64 (1 + bt158.1), bt162.2)))) else ((paygen_Deck_Code.f s0_0 bt158.2).bind fun bt164 => ((paygen_Deck_Next.f s0_0 bt164.2 3).bind fun bt166 => (if bt166.1 = 0 then (some (wrap64 (1 + bt156.1), bt164.1, wrap64 (-(wrap64 (1 + bt158.1))), bt166.2)) else (some (wrap64 (1 + bt156.1), bt164.1, wrap64 (1 + bt158.1), bt166.2))))))))) = some (r1, r2, r3, r4) := h
  clear h
  replace H := Option.bind_eq_some_iff.mp H
  obtain ⟨⟨t156, t157⟩, A20, H⟩ := H
  replace H : ((paygen_Deck_Small.f s0_0 t157).bind fun bt158 => ((payrollref32_Bare.f (wrap64 (1 + t156))).bind fun t161 => (if t161 = true then ((paygen_Deck_Next.f s0_0 bt158.2 3).bind fun bt162 => (if bt162.1 = 0 then (some (wrap64 (1 + t156), (⟨#[]⟩ : ByteArray), wrap64 (-(wrap64 (1 + bt158.1))), bt162.2)) else (some (wrap64 (1 + t156), (⟨#[]⟩ : ByteArray), wrap64 (1 + bt158.1), bt162.2)))) else ((paygen_Deck_Code.f s0_0 bt158.2).bind fun bt164 => ((paygen_Deck_Next.f s0_0 bt164.2 3).bind fun bt166 => (if bt166.1 = 0 then (some (wrap64 (1 + t156), bt164.1, wrap64 (-(wrap64 (1 + bt158.1))), bt166.2)) else (some (wrap64 (1 + t156), bt164.1, wrap64 (1 + bt158.1), bt166.2)))))))) = some (r1, r2, r3, r4) := H
  have A2 := Aside0.mk A20
  clear A20
  replace H := Option.bind_eq_some_iff.mp H
  obtain ⟨⟨t158, t159⟩, A30, H⟩ := H
  replace H : ((payrollref32_Bare.f (wrap64 (1 + t156))).bind fun t161 => (if t161 = true then ((paygen_Deck_Next.f s0_0 t159 3).bind fun bt162 => (if bt162.1 = 0 then (some (wrap64 (1 + t156), (⟨#[]⟩ : ByteArray), wrap64 (-(wrap64 (1 + t158))), bt162.2)) else (some (wrap64 (1 + t156), (⟨#[]⟩ : ByteArray), wrap64 (1 + t158), bt162.2)))) else ((paygen_Deck_Code.f s0_0 t159).bind fun bt164 => ((paygen_Deck_Next.f s0_0 bt164.2 3).bind fun bt166 => (if bt166.1 = 0 then (some (wrap64 (1 + t156), bt164.1, wrap64 (-(wrap64 (1 + t158))), bt166.2)) else (some (wrap64 (1 + t156), bt164.1, wrap64 (1 + t158), bt166.2))))))) = some (r1, r2, r3, r4) := H
  have A3 := Aside0.mk A30
  clear A30
  replace H := Option.bind_eq_some_iff.mp H
  obtain ⟨t161, A40, H⟩ := H
  replace H : (if t161 = true then ((paygen_Deck_Next.f s0_0 t159 3).bind fun bt162 => (if bt162.1 = 0 then (some (wrap64 (1 + t156), (⟨#[]⟩ : ByteArray), wrap64 (-(wrap64 (1 + t158))), bt162.2)) else (some (wrap64 (1 + t156), (⟨#[]⟩ : ByteArray), wrap64 (1 + t158), bt162.2)))) else ((paygen_Deck_Code.f s0_0 t159).bind fun bt164 => ((paygen_Deck_Next.f s0_0 bt164.2 3).bind fun bt166 => (if bt166.1 = 0 then (some (wrap64 (1 + t156), bt164.1, wrap64 (-(wrap64 (1 + t158))), bt166.2)) else (some (wrap64 (1 + t156), bt164.1, wrap64 (1 + t158), bt166.2)))))) = some (r1, r2, r3, r4) := H
  have A4 := Aside0.mk A40
  clear A40
  by_cases c5 : t161 = true
  · subst c5
    have H1 : ((paygen_Deck_Next.f s0_0 t159 3).bind fun bt162 => (if bt162.1 = 0 then (some (wrap64 (1 + t156), (⟨#[]⟩ : ByteArray), wrap64 (-(wrap64 (1 + t158))), bt162.2)) else (some (wrap64 (1 + t156), (⟨#[]⟩ : ByteArray), wrap64 (1 + t158), bt162.2)))) = some (r1, r2, r3, r4) := by rw [if_pos rfl] at H; exact H
    clear H
    have H := H1
    clear H1
    replace H := Option.bind_eq_some_iff.mp H
    obtain ⟨⟨t162, t163⟩, A60, H⟩ := H
    replace H : (if t162 = 0 then (some (wrap64 (1 + t156), (⟨#[]⟩ : ByteArray), wrap64 (-(wrap64 (1 + t158))), t163)) else (some (wrap64 (1 + t156), (⟨#[]⟩ : ByteArray), wrap64 (1 + t158), t163))) = some (r1, r2, r3, r4) := H
    have A6 := Aside0.mk A60
    clear A60
    by_cases c7 : t162 = 0
    · rw [if_pos c7] at H
      have c7b0 : (t162 == 0) = true := beq_iff_eq.mpr c7
      have c7b1 : (t162 != 0) = false := bne_eq_false_iff_eq.mpr c7
      clear c7
      simp only [Option.some.injEq, Prod.mk.injEq] at H
      obtain ⟨rfl, rfl, rfl, rfl⟩ := H
      go_enter Try.func34, Try.ntmps34
      go_wp2_with (first | ((with_reducible refine gate_dst (N := 2) rfl ?_); refine box_event ?hg (N := 2) ?hd (cs := #[.int .i64 0, .string (⟨#[]⟩ : ByteArray), .int .i64 0]) (t := 56) ?hr ?_; (case hd => rfl); (case hg => rfl); (case hr => first | (go_simp; done) | (go_simp; rfl)); intro gb155 hg w8 hbox hb; have n0_ := Aside0.mk (IsS60.below (by repeat (first | (with_reducible first | exact HI0.out | apply IsS60.alloc | apply IsS60.drewN | apply IsS60.drew | apply IsS60.set_1) | exact HI0.out)) hb); have n1_ := Aside0.mk (KeepBut.trans (by repeat (first | (with_reducible first | exact HK.out | apply KeepBut.set_ | apply keep_drewN | apply keep_drew | apply keep_alloc) | exact HK.out)) (KeepBut.of_below hb g none) (.inl rfl)); have n2_ := Aside0.mk (below_step (by repeat (first | (with_reducible first | exact HB.out | apply below_alloc | apply pw_below_drewN | apply below_drew1 | refine below_set ?_ (IsS60.ge HI0.out)) | exact HB.out)) hb); have n3_ := Aside0.mk (hbox); have n4_ := Aside0.mk ((by rw [hg]; exact (keep_size (w := w) (g := g) (row := none) (by repeat (first | (with_reducible first | exact HK.out | apply KeepBut.set_ | apply keep_drewN | apply keep_drew | apply keep_alloc) | exact HK.out))) : w.heap.size ≤ gb155)); have n5_ := Aside0.mk ((Nat.le_trans HW0.out (by rw [hg]; exact (keep_size (w := w) (g := g) (row := none) (by repeat (first | (with_reducible first | exact HK.out | apply KeepBut.set_ | apply keep_drewN | apply keep_drew | apply keep_alloc) | exact HK.out))) : w.heap.size ≤ gb155) : w0.heap.size ≤ gb155)); have n6_ := Aside0.mk ((by rw [hg]; exact Nat.ne_of_lt (IsS60.lt (show IsS60 w0 _ g s0_0 s0_1 from by repeat (first | (with_reducible first | exact HI0.out | apply IsS60.alloc | apply IsS60.drewN | apply IsS60.drew | apply IsS60.set_1) | exact HI0.out))) : g ≠ gb155)); have n7_ := Aside0.mk ((by rw [hg]; exact Nat.ne_of_gt (IsS60.lt (show IsS60 w0 _ g s0_0 s0_1 from by repeat (first | (with_reducible first | exact HI0.out | apply IsS60.alloc | apply IsS60.drewN | apply IsS60.drew | apply IsS60.set_1) | exact HI0.out))) : gb155 ≠ g)); clear HI0; clear HK; clear HB; have HI0 := n0_; have HK := n1_; have HB := n2_; have BK155 := n3_; have GW155 := n4_; have GE155 := n5_; have NB0_155 := n6_; have NB155_0 := n7_; clear n0_ n1_ n2_ n3_ n4_ n5_ n6_ n7_; clear hb hbox hg) | ((with_reducible refine gate_callee (f := 28) rfl ?_); refine goesL_ (some 5) rfl rfl Try.func28 (by kernel_rfl) rfl #[.pointer (some ⟨g, 0, none⟩), .int .i64 10] rfl (by (try simp only [List.map_toArray, List.map_cons, List.map_nil]); first | done | rfl | (simp only [List.length_drop, List.length_take]; rfl)) ?_; (with_reducible refine (paygen_Deck_Next.calls g s0_0 s0_1 10 t156 t157 w0 _ ?side1 ?side2 A2.out).mono ?_); (case side1 => repeat (first | (with_reducible first | exact HI0.out | apply IsS60.alloc | apply IsS60.drewN | apply IsS60.drew | apply IsS60.set_1 | refine IsS60.far ?_ NB0_155.out _) | exact HI0.out)); (case side2 => repeat (first | (with_reducible first | exact HB.out | apply below_alloc | apply pw_below_drewN | apply below_drew1 | refine below_set ?_ (IsS60.ge HI0.out) | refine below_set ?_ GE155.out) | exact HB.out)); rintro e w9 ⟨rfl, hi, hb, hk⟩; refine ⟨_, rfl, ?_⟩; have n0_ := Aside0.mk (KeepBut.blk hk (g' := gb155) (o := .cells #[.int .i64 0, .string (⟨#[]⟩ : ByteArray), .int .i64 0] 56 (0, 0)) (by (with_reducible repeat (first | refine blk_drewN ?_ _ | refine blk_drew ?_ | refine blk_alloc ?_ _)); exact BK155.out) NB155_0.out (by simp)); have n1_ := Aside0.mk (KeepBut.trans (by repeat (first | (with_reducible first | exact HK.out | apply KeepBut.set_ | apply keep_drewN | apply keep_drew | apply keep_alloc | refine keep_far ?_ GW155.out _) | exact HK.out)) hk (.inl rfl)); have n2_ := Aside0.mk (hb); have n3_ := Aside0.mk (hi); clear BK155; clear HK; clear HB; clear HI0; have BK155 := n0_; have HK := n1_; have HB := n2_; have HI0 := n3_; clear n0_ n1_ n2_ n3_; (try clear hb); (try clear hb2); (try clear hk); (try clear hi)) | ((with_reducible refine gate_callee (f := 20) rfl ?_); refine goesL_ (some 8) rfl rfl Try.func20 (by kernel_rfl) rfl #[.pointer (some ⟨g, 0, none⟩)] rfl (by (try simp only [List.map_toArray, List.map_cons, List.map_nil]); first | done | rfl | (simp only [List.length_drop, List.length_take]; rfl)) ?_; (with_reducible refine (paygen_Deck_Small.calls g s0_0 t157 t158 t159 w0 _ ?side1 ?side2 A3.out).mono ?_); (case side1 => repeat (first | (with_reducible first | exact HI0.out | apply IsS60.alloc | apply IsS60.drewN | apply IsS60.drew | apply IsS60.set_1 | refine IsS60.far ?_ NB0_155.out _) | exact HI0.out)); (case side2 => repeat (first | (with_reducible first | exact HB.out | apply below_alloc | apply pw_below_drewN | apply below_drew1 | refine below_set ?_ (IsS60.ge HI0.out) | refine below_set ?_ GE155.out) | exact HB.out)); rintro e w10 ⟨rfl, hi, hb, hk⟩; refine ⟨_, rfl, ?_⟩; have n0_ := Aside0.mk (KeepBut.blk hk (g' := gb155) (o := .cells #[.int .i64 0, .string (⟨#[]⟩ : ByteArray), .int .i64 0] 56 (0, 0)) (by (with_reducible repeat (first | refine blk_drewN ?_ _ | refine blk_drew ?_ | refine blk_alloc ?_ _)); exact BK155.out) NB155_0.out (by simp)); have n1_ := Aside0.mk (KeepBut.trans (by repeat (first | (with_reducible first | exact HK.out | apply KeepBut.set_ | apply keep_drewN | apply keep_drew | apply keep_alloc | refine keep_far ?_ GW155.out _) | exact HK.out)) hk (.inl rfl)); have n2_ := Aside0.mk (hb); have n3_ := Aside0.mk (hi); clear BK155; clear HK; clear HB; clear HI0; have BK155 := n0_; have HK := n1_; have HB := n2_; have HI0 := n3_; clear n0_ n1_ n2_ n3_; (try clear hb); (try clear hb2); (try clear hk); (try clear hi)) | ((with_reducible refine gate_dst (N := 3) rfl ?_); refine box_event ?hg (N := 3) ?hd (cs := #[.int .i64 0, .string (⟨#[]⟩ : ByteArray), .int .i64 0]) (t := 56) ?hr ?_; (case hd => rfl); (case hg => rfl); (case hr => first | (go_simp; done) | (go_simp; rfl)); intro gb160 hg w11 hbox hb; have n0_ := Aside0.mk (IsS60.below (by repeat (first | (with_reducible first | exact HI0.out | apply IsS60.alloc | apply IsS60.drewN | apply IsS60.drew | apply IsS60.set_1 | refine IsS60.far ?_ NB0_155.out _) | exact HI0.out)) hb); have n1_ := Aside0.mk (blk_below (g := gb155) (o := .cells #[.int .i64 0, .string (⟨#[]⟩ : ByteArray), .int .i64 0] 56 (0, 0)) (by (with_reducible repeat (first | refine blk_drewN ?_ _ | refine blk_drew ?_ | refine blk_alloc ?_ _)); exact BK155.out) hb); have n2_ := Aside0.mk (KeepBut.trans (by repeat (first | (with_reducible first | exact HK.out | apply KeepBut.set_ | apply keep_drewN | apply keep_drew | apply keep_alloc | refine keep_far ?_ GW155.out _) | exact HK.out)) (KeepBut.of_below hb g none) (.inl rfl)); have n3_ := Aside0.mk (below_step (by repeat (first | (with_reducible first | exact HB.out | apply below_alloc | apply pw_below_drewN | apply below_drew1 | refine below_set ?_ (IsS60.ge HI0.out) | refine below_set ?_ GE155.out) | exact HB.out)) hb); have n4_ := Aside0.mk (hbox); have n5_ := Aside0.mk ((by rw [hg]; exact (keep_size (w := w) (g := g) (row := none) (by repeat (first | (with_reducible first | exact HK.out | apply KeepBut.set_ | apply keep_drewN | apply keep_drew | apply keep_alloc | refine keep_far ?_ GW155.out _) | exact HK.out))) : w.heap.size ≤ gb160)); have n6_ := Aside0.mk ((Nat.le_trans HW0.out (by rw [hg]; exact (keep_size (w := w) (g := g) (row := none) (by repeat (first | (with_reducible first | exact HK.out | apply KeepBut.set_ | apply keep_drewN | apply keep_drew | apply keep_alloc | refine keep_far ?_ GW155.out _) | exact HK.out))) : w.heap.size ≤ gb160) : w0.heap.size ≤ gb160)); have n7_ := Aside0.mk ((by rw [hg]; exact Nat.ne_of_lt (blk_lt (g := gb155) (o := .cells #[.int .i64 0, .string (⟨#[]⟩ : ByteArray), .int .i64 0] 56 (0, 0)) (by (with_reducible repeat (first | refine blk_drewN ?_ _ | refine blk_drew ?_ | refine blk_alloc ?_ _)); exact BK155.out)) : gb155 ≠ gb160)); have n8_ := Aside0.mk ((by rw [hg]; exact Nat.ne_of_gt (blk_lt (g := gb155) (o := .cells #[.int .i64 0, .string (⟨#[]⟩ : ByteArray), .int .i64 0] 56 (0, 0)) (by (with_reducible repeat (first | refine blk_drewN ?_ _ | refine blk_drew ?_ | refine blk_alloc ?_ _)); exact BK155.out)) : gb160 ≠ gb155)); have n9_ := Aside0.mk ((by rw [hg]; exact Nat.ne_of_lt (IsS60.lt (show IsS60 w0 _ g s0_0 t159 from by repeat (first | (with_reducible first | exact HI0.out | apply IsS60.alloc | apply IsS60.drewN | apply IsS60.drew | apply IsS60.set_1 | refine IsS60.far ?_ NB0_155.out _) | exact HI0.out))) : g ≠ gb160)); have n10_ := Aside0.mk ((by rw [hg]; exact Nat.ne_of_gt (IsS60.lt (show IsS60 w0 _ g s0_0 t159 from by repeat (first | (with_reducible first | exact HI0.out | apply IsS60.alloc | apply IsS60.drewN | apply IsS60.drew | apply IsS60.set_1 | refine IsS60.far ?_ NB0_155.out _) | exact HI0.out))) : gb160 ≠ g)); clear HI0; clear BK155; clear HK; clear HB; have HI0 := n0_; have BK155 := n1_; have HK := n2_; have HB := n3_; have BK160 := n4_; have GW160 := n5_; have GE160 := n6_; have NB155_160 := n7_; have NB160_155 := n8_; have NB0_160 := n9_; have NB160_0 := n10_; clear n0_ n1_ n2_ n3_ n4_ n5_ n6_ n7_ n8_ n9_ n10_; clear hb hbox hg; have hnb12 := NB160_155.out; have hnc12 := NB155_160.out; have hnb13 := NB160_0.out; have hnc13 := NB0_160.out; have hcz14_0 : w11.cell? ⟨gb160, 0, none⟩ = some (.int .i64 0) := (blk_cell BK160.out 0).trans rfl; have hcz14_1 : w11.cell? ⟨gb160, 1, none⟩ = some (.string (⟨#[]⟩ : ByteArray)) := (blk_cell BK160.out 1).trans rfl; have hcz14_2 : w11.cell? ⟨gb160, 2, none⟩ = some (.int .i64 0) := (blk_cell BK160.out 2).trans rfl; have hfz14_0 := blk_frozen BK160.out 0; have hfz14_1 := blk_frozen BK160.out 1; have hfz14_2 := blk_frozen BK160.out 2) | ((with_reducible refine gate_callee (f := 48) rfl ?_); refine goesL_ (some 13) rfl rfl Try.func48 (by kernel_rfl) rfl #[.int .i64 (wrap64 (1 + t156))] rfl (by (try simp only [List.map_toArray, List.map_cons, List.map_nil]); first | done | rfl | (simp only [List.length_drop, List.length_take]; rfl)) ?_; (with_reducible refine (payrollref32_Bare.calls (wrap64 (1 + t156)) true _ A4.out).mono ?_); rintro e w' ⟨rfl, ⟨nd, rfl⟩⟩; refine ⟨_, rfl, ?_⟩) | ((with_reducible refine gate_callee (f := 28) rfl ?_); refine goesL_ (some 19) rfl rfl Try.func28 (by kernel_rfl) rfl #[.pointer (some ⟨g, 0, none⟩), .int .i64 3] rfl (by (try simp only [List.map_toArray, List.map_cons, List.map_nil]); first | done | rfl | (simp only [List.length_drop, List.length_take]; rfl)) ?_; (with_reducible refine (paygen_Deck_Next.calls g s0_0 t159 3 t162 t163 w0 _ ?side1 ?side2 A6.out).mono ?_); (case side1 => repeat (first | (with_reducible first | exact HI0.out | apply IsS60.alloc | apply IsS60.drewN | apply IsS60.drew | apply IsS60.set_1 | refine IsS60.far ?_ NB0_155.out _ | refine IsS60.far ?_ NB0_160.out _) | exact HI0.out)); (case side2 => repeat (first | (with_reducible first | exact HB.out | apply below_alloc | apply pw_below_drewN | apply below_drew1 | refine below_set ?_ (IsS60.ge HI0.out) | refine below_set ?_ GE155.out | refine below_set ?_ GE160.out) | exact HB.out)); rintro e w15 ⟨rfl, hi, hb, hk⟩; refine ⟨_, rfl, ?_⟩; have n0_ := Aside0.mk (KeepBut.blk hk (g' := gb155) (o := .cells #[.int .i64 0, .string (⟨#[]⟩ : ByteArray), .int .i64 0] 56 (0, 0)) (by (with_reducible repeat (first | refine blk_drewN ?_ _ | refine blk_drew ?_ | refine blk_alloc ?_ _)); refine blk_far ?_ NB155_160.out _; (with_reducible repeat (first | refine blk_drewN ?_ _ | refine blk_drew ?_ | refine blk_alloc ?_ _)); refine blk_far ?_ NB155_160.out _; (with_reducible repeat (first | refine blk_drewN ?_ _ | refine blk_drew ?_ | refine blk_alloc ?_ _)); refine blk_far ?_ NB155_160.out _; (with_reducible repeat (first | refine blk_drewN ?_ _ | refine blk_drew ?_ | refine blk_alloc ?_ _)); exact BK155.out) NB155_0.out (by simp)); have n1_ := Aside0.mk (KeepBut.blk hk (g' := gb160) (o := .cells #[.int .i64 (wrap64 (1 + t156)), .string (⟨#[]⟩ : ByteArray), .int .i64 (wrap64 (1 + t158))] 56 (0, 0)) (by (with_reducible repeat (first | refine blk_drewN ?_ _ | refine blk_drew ?_ | refine blk_alloc ?_ _)); refine blk_put (cs := #[.int .i64 (wrap64 (1 + t156)), .string (⟨#[]⟩ : ByteArray), .int .i64 0]) ?_ 2 _ rfl; (with_reducible repeat (first | refine blk_drewN ?_ _ | refine blk_drew ?_ | refine blk_alloc ?_ _)); refine blk_put (cs := #[.int .i64 (wrap64 (1 + t156)), .string (⟨#[]⟩ : ByteArray), .int .i64 0]) ?_ 1 _ rfl; (with_reducible repeat (first | refine blk_drewN ?_ _ | refine blk_drew ?_ | refine blk_alloc ?_ _)); refine blk_put (cs := #[.int .i64 0, .string (⟨#[]⟩ : ByteArray), .int .i64 0]) ?_ 0 _ rfl; (with_reducible repeat (first | refine blk_drewN ?_ _ | refine blk_drew ?_ | refine blk_alloc ?_ _)); exact BK160.out) NB160_0.out (by simp)); have n2_ := Aside0.mk (KeepBut.trans (by repeat (first | (with_reducible first | exact HK.out | apply KeepBut.set_ | apply keep_drewN | apply keep_drew | apply keep_alloc | refine keep_far ?_ GW155.out _ | refine keep_far ?_ GW160.out _) | exact HK.out)) hk (.inl rfl)); have n3_ := Aside0.mk (hb); have n4_ := Aside0.mk (hi); clear BK155; clear BK160; clear HK; clear HB; clear HI0; have BK155 := n0_; have BK160 := n1_; have HK := n2_; have HB := n3_; have HI0 := n4_; clear n0_ n1_ n2_ n3_ n4_; (try clear hb); (try clear hb2); (try clear hk); (try clear hi); have hcz16_0 : w15.cell? ⟨gb160, 0, none⟩ = some (.int .i64 (wrap64 (1 + t156))) := (blk_cell BK160.out 0).trans rfl; have hcz16_1 : w15.cell? ⟨gb160, 1, none⟩ = some (.string (⟨#[]⟩ : ByteArray)) := (blk_cell BK160.out 1).trans rfl; have hcz16_2 : w15.cell? ⟨gb160, 2, none⟩ = some (.int .i64 (wrap64 (1 + t158))) := (blk_cell BK160.out 2).trans rfl; have hfz16_0 := blk_frozen BK160.out 0; have hfz16_1 := blk_frozen BK160.out 1; have hfz16_2 := blk_frozen BK160.out 2; have hnb17 := NB155_0.out; have hnc17 := NB0_155.out; have hcz18_0 : w15.cell? ⟨gb155, 0, none⟩ = some (.int .i64 0) := (blk_cell BK155.out 0).trans rfl; have hcz18_1 : w15.cell? ⟨gb155, 1, none⟩ = some (.string (⟨#[]⟩ : ByteArray)) := (blk_cell BK155.out 1).trans rfl; have hcz18_2 : w15.cell? ⟨gb155, 2, none⟩ = some (.int .i64 0) := (blk_cell BK155.out 2).trans rfl; have hfz18_0 := blk_frozen BK155.out 0; have hfz18_1 := blk_frozen BK155.out 1; have hfz18_2 := blk_frozen BK155.out 2))
      refine bodyPost_ret (results_cell_row rfl _ _ gb155 56 #[.int .i64 (wrap64 (1 + t156)), .string (⟨#[]⟩ : ByteArray), .int .i64 (wrap64 (-(wrap64 (1 + t158))))] (0, 0) _ rfl (by (with_reducible repeat (first | refine blk_drewN ?_ _ | refine blk_drew ?_ | refine blk_alloc ?_ _)); refine blk_put (cs := #[.int .i64 (wrap64 (1 + t156)), .string (⟨#[]⟩ : ByteArray), .int .i64 0]) ?_ 2 _ rfl; (with_reducible repeat (first | refine blk_drewN ?_ _ | refine blk_drew ?_ | refine blk_alloc ?_ _)); refine blk_put (cs := #[.int .i64 (wrap64 (1 + t156)), .string (⟨#[]⟩ : ByteArray), .int .i64 0]) ?_ 1 _ rfl; (with_reducible repeat (first | refine blk_drewN ?_ _ | refine blk_drew ?_ | refine blk_alloc ?_ _)); refine blk_put (cs := #[.int .i64 0, .string (⟨#[]⟩ : ByteArray), .int .i64 0]) ?_ 0 _ rfl; (with_reducible repeat (first | refine blk_drewN ?_ _ | refine blk_drew ?_ | refine blk_alloc ?_ _)); refine blk_far ?_ NB155_160.out _; (with_reducible repeat (first | refine blk_drewN ?_ _ | refine blk_drew ?_ | refine blk_alloc ?_ _)); exact BK155.out) Try.underlying56 rfl (by kernel_rfl)) rfl ?_
      exact ⟨by first | rfl | (simp [errW_none, errW_some] <;> rfl) | (simp [*, errW_none, errW_some] <;> rfl), by repeat (first | (with_reducible first | exact HI0.out | apply IsS60.alloc | apply IsS60.drewN | apply IsS60.drew | apply IsS60.set_1 | refine IsS60.far ?_ NB0_155.out _ | refine IsS60.far ?_ NB0_160.out _) | exact HI0.out), by repeat (first | (with_reducible first | exact HB.out | apply below_alloc | apply pw_below_drewN | apply below_drew1 | refine below_set ?_ (IsS60.ge HI0.out) | refine below_set ?_ GE155.out | refine below_set ?_ GE160.out) | exact HB.out), by repeat (first | (with_reducible first | exact HK.out | apply KeepBut.set_ | apply keep_drewN | apply keep_drew | apply keep_alloc | refine keep_far ?_ GW155.out _ | refine keep_far ?_ GW160.out _) | exact HK.out)⟩
    · rw [if_neg c7] at H
      have c7b0 : (t162 == 0) = false := beq_eq_false_iff_ne.mpr c7
      have c7b1 : (t162 != 0) = true := bne_iff_ne.mpr c7
      simp only [Option.some.injEq, Prod.mk.injEq] at H
      obtain ⟨rfl, rfl, rfl, rfl⟩ := H
      go_enter Try.func34, Try.ntmps34
      go_wp2_with (first | ((with_reducible refine gate_dst (N := 2) rfl ?_); refine box_event ?hg (N := 2) ?hd (cs := #[.int .i64 0, .string (⟨#[]⟩ : ByteArray), .int .i64 0]) (t := 56) ?hr ?_; (case hd => rfl); (case hg => rfl); (case hr => first | (go_simp; done) | (go_simp; rfl)); intro gb155 hg w19 hbox hb; have n0_ := Aside0.mk (IsS60.below (by repeat (first | (with_reducible first | exact HI0.out | apply IsS60.alloc | apply IsS60.drewN | apply IsS60.drew | apply IsS60.set_1) | exact HI0.out)) hb); have n1_ := Aside0.mk (KeepBut.trans (by repeat (first | (with_reducible first | exact HK.out | apply KeepBut.set_ | apply keep_drewN | apply keep_drew | apply keep_alloc) | exact HK.out)) (KeepBut.of_below hb g none) (.inl rfl)); have n2_ := Aside0.mk (below_step (by repeat (first | (with_reducible first | exact HB.out | apply below_alloc | apply pw_below_drewN | apply below_drew1 | refine below_set ?_ (IsS60.ge HI0.out)) | exact HB.out)) hb); have n3_ := Aside0.mk (hbox); have n4_ := Aside0.mk ((by rw [hg]; exact (keep_size (w := w) (g := g) (row := none) (by repeat (first | (with_reducible first | exact HK.out | apply KeepBut.set_ | apply keep_drewN | apply keep_drew | apply keep_alloc) | exact HK.out))) : w.heap.size ≤ gb155)); have n5_ := Aside0.mk ((Nat.le_trans HW0.out (by rw [hg]; exact (keep_size (w := w) (g := g) (row := none) (by repeat (first | (with_reducible first | exact HK.out | apply KeepBut.set_ | apply keep_drewN | apply keep_drew | apply keep_alloc) | exact HK.out))) : w.heap.size ≤ gb155) : w0.heap.size ≤ gb155)); have n6_ := Aside0.mk ((by rw [hg]; exact Nat.ne_of_lt (IsS60.lt (show IsS60 w0 _ g s0_0 s0_1 from by repeat (first | (with_reducible first | exact HI0.out | apply IsS60.alloc | apply IsS60.drewN | apply IsS60.drew | apply IsS60.set_1) | exact HI0.out))) : g ≠ gb155)); have n7_ := Aside0.mk ((by rw [hg]; exact Nat.ne_of_gt (IsS60.lt (show IsS60 w0 _ g s0_0 s0_1 from by repeat (first | (with_reducible first | exact HI0.out | apply IsS60.alloc | apply IsS60.drewN | apply IsS60.drew | apply IsS60.set_1) | exact HI0.out))) : gb155 ≠ g)); clear HI0; clear HK; clear HB; have HI0 := n0_; have HK := n1_; have HB := n2_; have BK155 := n3_; have GW155 := n4_; have GE155 := n5_; have NB0_155 := n6_; have NB155_0 := n7_; clear n0_ n1_ n2_ n3_ n4_ n5_ n6_ n7_; clear hb hbox hg) | ((with_reducible refine gate_callee (f := 28) rfl ?_); refine goesL_ (some 5) rfl rfl Try.func28 (by kernel_rfl) rfl #[.pointer (some ⟨g, 0, none⟩), .int .i64 10] rfl (by (try simp only [List.map_toArray, List.map_cons, List.map_nil]); first | done | rfl | (simp only [List.length_drop, List.length_take]; rfl)) ?_; (with_reducible refine (paygen_Deck_Next.calls g s0_0 s0_1 10 t156 t157 w0 _ ?side1 ?side2 A2.out).mono ?_); (case side1 => repeat (first | (with_reducible first | exact HI0.out | apply IsS60.alloc | apply IsS60.drewN | apply IsS60.drew | apply IsS60.set_1 | refine IsS60.far ?_ NB0_155.out _) | exact HI0.out)); (case side2 => repeat (first | (with_reducible first | exact HB.out | apply below_alloc | apply pw_below_drewN | apply below_drew1 | refine below_set ?_ (IsS60.ge HI0.out) | refine below_set ?_ GE155.out) | exact HB.out)); rintro e w20 ⟨rfl, hi, hb, hk⟩; refine ⟨_, rfl, ?_⟩; have n0_ := Aside0.mk (KeepBut.blk hk (g' := gb155) (o := .cells #[.int .i64 0, .string (⟨#[]⟩ : ByteArray), .int .i64 0] 56 (0, 0)) (by (with_reducible repeat (first | refine blk_drewN ?_ _ | refine blk_drew ?_ | refine blk_alloc ?_ _)); exact BK155.out) NB155_0.out (by simp)); have n1_ := Aside0.mk (KeepBut.trans (by repeat (first | (with_reducible first | exact HK.out | apply KeepBut.set_ | apply keep_drewN | apply keep_drew | apply keep_alloc | refine keep_far ?_ GW155.out _) | exact HK.out)) hk (.inl rfl)); have n2_ := Aside0.mk (hb); have n3_ := Aside0.mk (hi); clear BK155; clear HK; clear HB; clear HI0; have BK155 := n0_; have HK := n1_; have HB := n2_; have HI0 := n3_; clear n0_ n1_ n2_ n3_; (try clear hb); (try clear hb2); (try clear hk); (try clear hi)) | ((with_reducible refine gate_callee (f := 20) rfl ?_); refine goesL_ (some 8) rfl rfl Try.func20 (by kernel_rfl) rfl #[.pointer (some ⟨g, 0, none⟩)] rfl (by (try simp only [List.map_toArray, List.map_cons, List.map_nil]); first | done | rfl | (simp only [List.length_drop, List.length_take]; rfl)) ?_; (with_reducible refine (paygen_Deck_Small.calls g s0_0 t157 t158 t159 w0 _ ?side1 ?side2 A3.out).mono ?_); (case side1 => repeat (first | (with_reducible first | exact HI0.out | apply IsS60.alloc | apply IsS60.drewN | apply IsS60.drew | apply IsS60.set_1 | refine IsS60.far ?_ NB0_155.out _) | exact HI0.out)); (case side2 => repeat (first | (with_reducible first | exact HB.out | apply below_alloc | apply pw_below_drewN | apply below_drew1 | refine below_set ?_ (IsS60.ge HI0.out) | refine below_set ?_ GE155.out) | exact HB.out)); rintro e w21 ⟨rfl, hi, hb, hk⟩; refine ⟨_, rfl, ?_⟩; have n0_ := Aside0.mk (KeepBut.blk hk (g' := gb155) (o := .cells #[.int .i64 0, .string (⟨#[]⟩ : ByteArray), .int .i64 0] 56 (0, 0)) (by (with_reducible repeat (first | refine blk_drewN ?_ _ | refine blk_drew ?_ | refine blk_alloc ?_ _)); exact BK155.out) NB155_0.out (by simp)); have n1_ := Aside0.mk (KeepBut.trans (by repeat (first | (with_reducible first | exact HK.out | apply KeepBut.set_ | apply keep_drewN | apply keep_drew | apply keep_alloc | refine keep_far ?_ GW155.out _) | exact HK.out)) hk (.inl rfl)); have n2_ := Aside0.mk (hb); have n3_ := Aside0.mk (hi); clear BK155; clear HK; clear HB; clear HI0; have BK155 := n0_; have HK := n1_; have HB := n2_; have HI0 := n3_; clear n0_ n1_ n2_ n3_; (try clear hb); (try clear hb2); (try clear hk); (try clear hi)) | ((with_reducible refine gate_dst (N := 3) rfl ?_); refine box_event ?hg (N := 3) ?hd (cs := #[.int .i64 0, .string (⟨#[]⟩ : ByteArray), .int .i64 0]) (t := 56) ?hr ?_; (case hd => rfl); (case hg => rfl); (case hr => first | (go_simp; done) | (go_simp; rfl)); intro gb160 hg w22 hbox hb; have n0_ := Aside0.mk (IsS60.below (by repeat (first | (with_reducible first | exact HI0.out | apply IsS60.alloc | apply IsS60.drewN | apply IsS60.drew | apply IsS60.set_1 | refine IsS60.far ?_ NB0_155.out _) | exact HI0.out)) hb); have n1_ := Aside0.mk (blk_below (g := gb155) (o := .cells #[.int .i64 0, .string (⟨#[]⟩ : ByteArray), .int .i64 0] 56 (0, 0)) (by (with_reducible repeat (first | refine blk_drewN ?_ _ | refine blk_drew ?_ | refine blk_alloc ?_ _)); exact BK155.out) hb); have n2_ := Aside0.mk (KeepBut.trans (by repeat (first | (with_reducible first | exact HK.out | apply KeepBut.set_ | apply keep_drewN | apply keep_drew | apply keep_alloc | refine keep_far ?_ GW155.out _) | exact HK.out)) (KeepBut.of_below hb g none) (.inl rfl)); have n3_ := Aside0.mk (below_step (by repeat (first | (with_reducible first | exact HB.out | apply below_alloc | apply pw_below_drewN | apply below_drew1 | refine below_set ?_ (IsS60.ge HI0.out) | refine below_set ?_ GE155.out) | exact HB.out)) hb); have n4_ := Aside0.mk (hbox); have n5_ := Aside0.mk ((by rw [hg]; exact (keep_size (w := w) (g := g) (row := none) (by repeat (first | (with_reducible first | exact HK.out | apply KeepBut.set_ | apply keep_drewN | apply keep_drew | apply keep_alloc | refine keep_far ?_ GW155.out _) | exact HK.out))) : w.heap.size ≤ gb160)); have n6_ := Aside0.mk ((Nat.le_trans HW0.out (by rw [hg]; exact (keep_size (w := w) (g := g) (row := none) (by repeat (first | (with_reducible first | exact HK.out | apply KeepBut.set_ | apply keep_drewN | apply keep_drew | apply keep_alloc | refine keep_far ?_ GW155.out _) | exact HK.out))) : w.heap.size ≤ gb160) : w0.heap.size ≤ gb160)); have n7_ := Aside0.mk ((by rw [hg]; exact Nat.ne_of_lt (blk_lt (g := gb155) (o := .cells #[.int .i64 0, .string (⟨#[]⟩ : ByteArray), .int .i64 0] 56 (0, 0)) (by (with_reducible repeat (first | refine blk_drewN ?_ _ | refine blk_drew ?_ | refine blk_alloc ?_ _)); exact BK155.out)) : gb155 ≠ gb160)); have n8_ := Aside0.mk ((by rw [hg]; exact Nat.ne_of_gt (blk_lt (g := gb155) (o := .cells #[.int .i64 0, .string (⟨#[]⟩ : ByteArray), .int .i64 0] 56 (0, 0)) (by (with_reducible repeat (first | refine blk_drewN ?_ _ | refine blk_drew ?_ | refine blk_alloc ?_ _)); exact BK155.out)) : gb160 ≠ gb155)); have n9_ := Aside0.mk ((by rw [hg]; exact Nat.ne_of_lt (IsS60.lt (show IsS60 w0 _ g s0_0 t159 from by repeat (first | (with_reducible first | exact HI0.out | apply IsS60.alloc | apply IsS60.drewN | apply IsS60.drew | apply IsS60.set_1 | refine IsS60.far ?_ NB0_155.out _) | exact HI0.out))) : g ≠ gb160)); have n10_ := Aside0.mk ((by rw [hg]; exact Nat.ne_of_gt (IsS60.lt (show IsS60 w0 _ g s0_0 t159 from by repeat (first | (with_reducible first | exact HI0.out | apply IsS60.alloc | apply IsS60.drewN | apply IsS60.drew | apply IsS60.set_1 | refine IsS60.far ?_ NB0_155.out _) | exact HI0.out))) : gb160 ≠ g)); clear HI0; clear BK155; clear HK; clear HB; have HI0 := n0_; have BK155 := n1_; have HK := n2_; have HB := n3_; have BK160 := n4_; have GW160 := n5_; have GE160 := n6_; have NB155_160 := n7_; have NB160_155 := n8_; have NB0_160 := n9_; have NB160_0 := n10_; clear n0_ n1_ n2_ n3_ n4_ n5_ n6_ n7_ n8_ n9_ n10_; clear hb hbox hg; have hnb23 := NB160_155.out; have hnc23 := NB155_160.out; have hnb24 := NB160_0.out; have hnc24 := NB0_160.out; have hcz25_0 : w22.cell? ⟨gb160, 0, none⟩ = some (.int .i64 0) := (blk_cell BK160.out 0).trans rfl; have hcz25_1 : w22.cell? ⟨gb160, 1, none⟩ = some (.string (⟨#[]⟩ : ByteArray)) := (blk_cell BK160.out 1).trans rfl; have hcz25_2 : w22.cell? ⟨gb160, 2, none⟩ = some (.int .i64 0) := (blk_cell BK160.out 2).trans rfl; have hfz25_0 := blk_frozen BK160.out 0; have hfz25_1 := blk_frozen BK160.out 1; have hfz25_2 := blk_frozen BK160.out 2) | ((with_reducible refine gate_callee (f := 48) rfl ?_); refine goesL_ (some 13) rfl rfl Try.func48 (by kernel_rfl) rfl #[.int .i64 (wrap64 (1 + t156))] rfl (by (try simp only [List.map_toArray, List.map_cons, List.map_nil]); first | done | rfl | (simp only [List.length_drop, List.length_take]; rfl)) ?_; (with_reducible refine (payrollref32_Bare.calls (wrap64 (1 + t156)) true _ A4.out).mono ?_); rintro e w' ⟨rfl, ⟨nd, rfl⟩⟩; refine ⟨_, rfl, ?_⟩) | ((with_reducible refine gate_callee (f := 28) rfl ?_); refine goesL_ (some 19) rfl rfl Try.func28 (by kernel_rfl) rfl #[.pointer (some ⟨g, 0, none⟩), .int .i64 3] rfl (by (try simp only [List.map_toArray, List.map_cons, List.map_nil]); first | done | rfl | (simp only [List.length_drop, List.length_take]; rfl)) ?_; (with_reducible refine (paygen_Deck_Next.calls g s0_0 t159 3 t162 t163 w0 _ ?side1 ?side2 A6.out).mono ?_); (case side1 => repeat (first | (with_reducible first | exact HI0.out | apply IsS60.alloc | apply IsS60.drewN | apply IsS60.drew | apply IsS60.set_1 | refine IsS60.far ?_ NB0_155.out _ | refine IsS60.far ?_ NB0_160.out _) | exact HI0.out)); (case side2 => repeat (first | (with_reducible first | exact HB.out | apply below_alloc | apply pw_below_drewN | apply below_drew1 | refine below_set ?_ (IsS60.ge HI0.out) | refine below_set ?_ GE155.out | refine below_set ?_ GE160.out) | exact HB.out)); rintro e w26 ⟨rfl, hi, hb, hk⟩; refine ⟨_, rfl, ?_⟩; have n0_ := Aside0.mk (KeepBut.blk hk (g' := gb155) (o := .cells #[.int .i64 0, .string (⟨#[]⟩ : ByteArray), .int .i64 0] 56 (0, 0)) (by (with_reducible repeat (first | refine blk_drewN ?_ _ | refine blk_drew ?_ | refine blk_alloc ?_ _)); refine blk_far ?_ NB155_160.out _; (with_reducible repeat (first | refine blk_drewN ?_ _ | refine blk_drew ?_ | refine blk_alloc ?_ _)); refine blk_far ?_ NB155_160.out _; (with_reducible repeat (first | refine blk_drewN ?_ _ | refine blk_drew ?_ | refine blk_alloc ?_ _)); refine blk_far ?_ NB155_160.out _; (with_reducible repeat (first | refine blk_drewN ?_ _ | refine blk_drew ?_ | refine blk_alloc ?_ _)); exact BK155.out) NB155_0.out (by simp)); have n1_ := Aside0.mk (KeepBut.blk hk (g' := gb160) (o := .cells #[.int .i64 (wrap64 (1 + t156)), .string (⟨#[]⟩ : ByteArray), .int .i64 (wrap64 (1 + t158))] 56 (0, 0)) (by (with_reducible repeat (first | refine blk_drewN ?_ _ | refine blk_drew ?_ | refine blk_alloc ?_ _)); refine blk_put (cs := #[.int .i64 (wrap64 (1 + t156)), .string (⟨#[]⟩ : ByteArray), .int .i64 0]) ?_ 2 _ rfl; (with_reducible repeat (first | refine blk_drewN ?_ _ | refine blk_drew ?_ | refine blk_alloc ?_ _)); refine blk_put (cs := #[.int .i64 (wrap64 (1 + t156)), .string (⟨#[]⟩ : ByteArray), .int .i64 0]) ?_ 1 _ rfl; (with_reducible repeat (first | refine blk_drewN ?_ _ | refine blk_drew ?_ | refine blk_alloc ?_ _)); refine blk_put (cs := #[.int .i64 0, .string (⟨#[]⟩ : ByteArray), .int .i64 0]) ?_ 0 _ rfl; (with_reducible repeat (first | refine blk_drewN ?_ _ | refine blk_drew ?_ | refine blk_alloc ?_ _)); exact BK160.out) NB160_0.out (by simp)); have n2_ := Aside0.mk (KeepBut.trans (by repeat (first | (with_reducible first | exact HK.out | apply KeepBut.set_ | apply keep_drewN | apply keep_drew | apply keep_alloc | refine keep_far ?_ GW155.out _ | refine keep_far ?_ GW160.out _) | exact HK.out)) hk (.inl rfl)); have n3_ := Aside0.mk (hb); have n4_ := Aside0.mk (hi); clear BK155; clear BK160; clear HK; clear HB; clear HI0; have BK155 := n0_; have BK160 := n1_; have HK := n2_; have HB := n3_; have HI0 := n4_; clear n0_ n1_ n2_ n3_ n4_; (try clear hb); (try clear hb2); (try clear hk); (try clear hi); have hcz27_0 : w26.cell? ⟨gb160, 0, none⟩ = some (.int .i64 (wrap64 (1 + t156))) := (blk_cell BK160.out 0).trans rfl; have hcz27_1 : w26.cell? ⟨gb160, 1, none⟩ = some (.string (⟨#[]⟩ : ByteArray)) := (blk_cell BK160.out 1).trans rfl; have hcz27_2 : w26.cell? ⟨gb160, 2, none⟩ = some (.int .i64 (wrap64 (1 + t158))) := (blk_cell BK160.out 2).trans rfl; have hfz27_0 := blk_frozen BK160.out 0; have hfz27_1 := blk_frozen BK160.out 1; have hfz27_2 := blk_frozen BK160.out 2; have hnb28 := NB155_0.out; have hnc28 := NB0_155.out; have hcz29_0 : w26.cell? ⟨gb155, 0, none⟩ = some (.int .i64 0) := (blk_cell BK155.out 0).trans rfl; have hcz29_1 : w26.cell? ⟨gb155, 1, none⟩ = some (.string (⟨#[]⟩ : ByteArray)) := (blk_cell BK155.out 1).trans rfl; have hcz29_2 : w26.cell? ⟨gb155, 2, none⟩ = some (.int .i64 0) := (blk_cell BK155.out 2).trans rfl; have hfz29_0 := blk_frozen BK155.out 0; have hfz29_1 := blk_frozen BK155.out 1; have hfz29_2 := blk_frozen BK155.out 2))
      refine bodyPost_ret (results_cell_row rfl _ _ gb155 56 #[.int .i64 (wrap64 (1 + t156)), .string (⟨#[]⟩ : ByteArray), .int .i64 (wrap64 (1 + t158))] (0, 0) _ rfl (by (with_reducible repeat (first | refine blk_drewN ?_ _ | refine blk_drew ?_ | refine blk_alloc ?_ _)); refine blk_put (cs := #[.int .i64 (wrap64 (1 + t156)), .string (⟨#[]⟩ : ByteArray), .int .i64 0]) ?_ 2 _ rfl; (with_reducible repeat (first | refine blk_drewN ?_ _ | refine blk_drew ?_ | refine blk_alloc ?_ _)); refine blk_put (cs := #[.int .i64 (wrap64 (1 + t156)), .string (⟨#[]⟩ : ByteArray), .int .i64 0]) ?_ 1 _ rfl; (with_reducible repeat (first | refine blk_drewN ?_ _ | refine blk_drew ?_ | refine blk_alloc ?_ _)); refine blk_put (cs := #[.int .i64 0, .string (⟨#[]⟩ : ByteArray), .int .i64 0]) ?_ 0 _ rfl; (with_reducible repeat (first | refine blk_drewN ?_ _ | refine blk_drew ?_ | refine blk_alloc ?_ _)); exact BK155.out) Try.underlying56 rfl (by kernel_rfl)) rfl ?_
      exact ⟨by first | rfl | (simp [errW_none, errW_some] <;> rfl) | (simp [*, errW_none, errW_some] <;> rfl), by repeat (first | (with_reducible first | exact HI0.out | apply IsS60.alloc | apply IsS60.drewN | apply IsS60.drew | apply IsS60.set_1 | refine IsS60.far ?_ NB0_155.out _ | refine IsS60.far ?_ NB0_160.out _) | exact HI0.out), by repeat (first | (with_reducible first | exact HB.out | apply below_alloc | apply pw_below_drewN | apply below_drew1 | refine below_set ?_ (IsS60.ge HI0.out) | refine below_set ?_ GE155.out | refine below_set ?_ GE160.out) | exact HB.out), by repeat (first | (with_reducible first | exact HK.out | apply KeepBut.set_ | apply keep_drewN | apply keep_drew | apply keep_alloc | refine keep_far ?_ GW155.out _ | refine keep_far ?_ GW160.out _) | exact HK.out)⟩
  · replace c5 := Bool.eq_false_iff.mpr c5
    subst c5
    have H1 : ((paygen_Deck_Code.f s0_0 t159).bind fun bt164 => ((paygen_Deck_Next.f s0_0 bt164.2 3).bind fun bt166 => (if bt166.1 = 0 then (some (wrap64 (1 + t156), bt164.1, wrap64 (-(wrap64 (1 + t158))), bt166.2)) else (some (wrap64 (1 + t156), bt164.1, wrap64 (1 + t158), bt166.2))))) = some (r1, r2, r3, r4) := by rw [if_neg (show ¬ (false = true) by decide)] at H; exact H
    clear H
    have H := H1
    clear H1
    replace H := Option.bind_eq_some_iff.mp H
    obtain ⟨⟨t164, t165⟩, A300, H⟩ := H
    replace H : ((paygen_Deck_Next.f s0_0 t165 3).bind fun bt166 => (if bt166.1 = 0 then (some (wrap64 (1 + t156), t164, wrap64 (-(wrap64 (1 + t158))), bt166.2)) else (some (wrap64 (1 + t156), t164, wrap64 (1 + t158), bt166.2)))) = some (r1, r2, r3, r4) := H
    have A30 := Aside0.mk A300
    clear A300
    replace H := Option.bind_eq_some_iff.mp H
    obtain ⟨⟨t166, t167⟩, A310, H⟩ := H
    replace H : (if t166 = 0 then (some (wrap64 (1 + t156), t164, wrap64 (-(wrap64 (1 + t158))), t167)) else (some (wrap64 (1 + t156), t164, wrap64 (1 + t158), t167))) = some (r1, r2, r3, r4) := H
    have A31 := Aside0.mk A310
    clear A310
    by_cases c32 : t166 = 0
    · rw [if_pos c32] at H
      have c32b0 : (t166 == 0) = true := beq_iff_eq.mpr c32
      have c32b1 : (t166 != 0) = false := bne_eq_false_iff_eq.mpr c32
      clear c32
      simp only [Option.some.injEq, Prod.mk.injEq] at H
      obtain ⟨rfl, rfl, rfl, rfl⟩ := H
      go_enter Try.func34, Try.ntmps34
      go_wp2_with (first | ((with_reducible refine gate_dst (N := 2) rfl ?_); refine box_event ?hg (N := 2) ?hd (cs := #[.int .i64 0, .string (⟨#[]⟩ : ByteArray), .int .i64 0]) (t := 56) ?hr ?_; (case hd => rfl); (case hg => rfl); (case hr => first | (go_simp; done) | (go_simp; rfl)); intro gb155 hg w33 hbox hb; have n0_ := Aside0.mk (IsS60.below (by repeat (first | (with_reducible first | exact HI0.out | apply IsS60.alloc | apply IsS60.drewN | apply IsS60.drew | apply IsS60.set_1) | exact HI0.out)) hb); have n1_ := Aside0.mk (KeepBut.trans (by repeat (first | (with_reducible first | exact HK.out | apply KeepBut.set_ | apply keep_drewN | apply keep_drew | apply keep_alloc) | exact HK.out)) (KeepBut.of_below hb g none) (.inl rfl)); have n2_ := Aside0.mk (below_step (by repeat (first | (with_reducible first | exact HB.out | apply below_alloc | apply pw_below_drewN | apply below_drew1 | refine below_set ?_ (IsS60.ge HI0.out)) | exact HB.out)) hb); have n3_ := Aside0.mk (hbox); have n4_ := Aside0.mk ((by rw [hg]; exact (keep_size (w := w) (g := g) (row := none) (by repeat (first | (with_reducible first | exact HK.out | apply KeepBut.set_ | apply keep_drewN | apply keep_drew | apply keep_alloc) | exact HK.out))) : w.heap.size ≤ gb155)); have n5_ := Aside0.mk ((Nat.le_trans HW0.out (by rw [hg]; exact (keep_size (w := w) (g := g) (row := none) (by repeat (first | (with_reducible first | exact HK.out | apply KeepBut.set_ | apply keep_drewN | apply keep_drew | apply keep_alloc) | exact HK.out))) : w.heap.size ≤ gb155) : w0.heap.size ≤ gb155)); have n6_ := Aside0.mk ((by rw [hg]; exact Nat.ne_of_lt (IsS60.lt (show IsS60 w0 _ g s0_0 s0_1 from by repeat (first | (with_reducible first | exact HI0.out | apply IsS60.alloc | apply IsS60.drewN | apply IsS60.drew | apply IsS60.set_1) | exact HI0.out))) : g ≠ gb155)); have n7_ := Aside0.mk ((by rw [hg]; exact Nat.ne_of_gt (IsS60.lt (show IsS60 w0 _ g s0_0 s0_1 from by repeat (first | (with_reducible first | exact HI0.out | apply IsS60.alloc | apply IsS60.drewN | apply IsS60.drew | apply IsS60.set_1) | exact HI0.out))) : gb155 ≠ g)); clear HI0; clear HK; clear HB; have HI0 := n0_; have HK := n1_; have HB := n2_; have BK155 := n3_; have GW155 := n4_; have GE155 := n5_; have NB0_155 := n6_; have NB155_0 := n7_; clear n0_ n1_ n2_ n3_ n4_ n5_ n6_ n7_; clear hb hbox hg) | ((with_reducible refine gate_callee (f := 28) rfl ?_); refine goesL_ (some 5) rfl rfl Try.func28 (by kernel_rfl) rfl #[.pointer (some ⟨g, 0, none⟩), .int .i64 10] rfl (by (try simp only [List.map_toArray, List.map_cons, List.map_nil]); first | done | rfl | (simp only [List.length_drop, List.length_take]; rfl)) ?_; (with_reducible refine (paygen_Deck_Next.calls g s0_0 s0_1 10 t156 t157 w0 _ ?side1 ?side2 A2.out).mono ?_); (case side1 => repeat (first | (with_reducible first | exact HI0.out | apply IsS60.alloc | apply IsS60.drewN | apply IsS60.drew | apply IsS60.set_1 | refine IsS60.far ?_ NB0_155.out _) | exact HI0.out)); (case side2 => repeat (first | (with_reducible first | exact HB.out | apply below_alloc | apply pw_below_drewN | apply below_drew1 | refine below_set ?_ (IsS60.ge HI0.out) | refine below_set ?_ GE155.out) | exact HB.out)); rintro e w34 ⟨rfl, hi, hb, hk⟩; refine ⟨_, rfl, ?_⟩; have n0_ := Aside0.mk (KeepBut.blk hk (g' := gb155) (o := .cells #[.int .i64 0, .string (⟨#[]⟩ : ByteArray), .int .i64 0] 56 (0, 0)) (by (with_reducible repeat (first | refine blk_drewN ?_ _ | refine blk_drew ?_ | refine blk_alloc ?_ _)); exact BK155.out) NB155_0.out (by simp)); have n1_ := Aside0.mk (KeepBut.trans (by repeat (first | (with_reducible first | exact HK.out | apply KeepBut.set_ | apply keep_drewN | apply keep_drew | apply keep_alloc | refine keep_far ?_ GW155.out _) | exact HK.out)) hk (.inl rfl)); have n2_ := Aside0.mk (hb); have n3_ := Aside0.mk (hi); clear BK155; clear HK; clear HB; clear HI0; have BK155 := n0_; have HK := n1_; have HB := n2_; have HI0 := n3_; clear n0_ n1_ n2_ n3_; (try clear hb); (try clear hb2); (try clear hk); (try clear hi)) | ((with_reducible refine gate_callee (f := 20) rfl ?_); refine goesL_ (some 8) rfl rfl Try.func20 (by kernel_rfl) rfl #[.pointer (some ⟨g, 0, none⟩)] rfl (by (try simp only [List.map_toArray, List.map_cons, List.map_nil]); first | done | rfl | (simp only [List.length_drop, List.length_take]; rfl)) ?_; (with_reducible refine (paygen_Deck_Small.calls g s0_0 t157 t158 t159 w0 _ ?side1 ?side2 A3.out).mono ?_); (case side1 => repeat (first | (with_reducible first | exact HI0.out | apply IsS60.alloc | apply IsS60.drewN | apply IsS60.drew | apply IsS60.set_1 | refine IsS60.far ?_ NB0_155.out _) | exact HI0.out)); (case side2 => repeat (first | (with_reducible first | exact HB.out | apply below_alloc | apply pw_below_drewN | apply below_drew1 | refine below_set ?_ (IsS60.ge HI0.out) | refine below_set ?_ GE155.out) | exact HB.out)); rintro e w35 ⟨rfl, hi, hb, hk⟩; refine ⟨_, rfl, ?_⟩; have n0_ := Aside0.mk (KeepBut.blk hk (g' := gb155) (o := .cells #[.int .i64 0, .string (⟨#[]⟩ : ByteArray), .int .i64 0] 56 (0, 0)) (by (with_reducible repeat (first | refine blk_drewN ?_ _ | refine blk_drew ?_ | refine blk_alloc ?_ _)); exact BK155.out) NB155_0.out (by simp)); have n1_ := Aside0.mk (KeepBut.trans (by repeat (first | (with_reducible first | exact HK.out | apply KeepBut.set_ | apply keep_drewN | apply keep_drew | apply keep_alloc | refine keep_far ?_ GW155.out _) | exact HK.out)) hk (.inl rfl)); have n2_ := Aside0.mk (hb); have n3_ := Aside0.mk (hi); clear BK155; clear HK; clear HB; clear HI0; have BK155 := n0_; have HK := n1_; have HB := n2_; have HI0 := n3_; clear n0_ n1_ n2_ n3_; (try clear hb); (try clear hb2); (try clear hk); (try clear hi)) | ((with_reducible refine gate_dst (N := 3) rfl ?_); refine box_event ?hg (N := 3) ?hd (cs := #[.int .i64 0, .string (⟨#[]⟩ : ByteArray), .int .i64 0]) (t := 56) ?hr ?_; (case hd => rfl); (case hg => rfl); (case hr => first | (go_simp; done) | (go_simp; rfl)); intro gb160 hg w36 hbox hb; have n0_ := Aside0.mk (IsS60.below (by repeat (first | (with_reducible first | exact HI0.out | apply IsS60.alloc | apply IsS60.drewN | apply IsS60.drew | apply IsS60.set_1 | refine IsS60.far ?_ NB0_155.out _) | exact HI0.out)) hb); have n1_ := Aside0.mk (blk_below (g := gb155) (o := .cells #[.int .i64 0, .string (⟨#[]⟩ : ByteArray), .int .i64 0] 56 (0, 0)) (by (with_reducible repeat (first | refine blk_drewN ?_ _ | refine blk_drew ?_ | refine blk_alloc ?_ _)); exact BK155.out) hb); have n2_ := Aside0.mk (KeepBut.trans (by repeat (first | (with_reducible first | exact HK.out | apply KeepBut.set_ | apply keep_drewN | apply keep_drew | apply keep_alloc | refine keep_far ?_ GW155.out _) | exact HK.out)) (KeepBut.of_below hb g none) (.inl rfl)); have n3_ := Aside0.mk (below_step (by repeat (first | (with_reducible first | exact HB.out | apply below_alloc | apply pw_below_drewN | apply below_drew1 | refine below_set ?_ (IsS60.ge HI0.out) | refine below_set ?_ GE155.out) | exact HB.out)) hb); have n4_ := Aside0.mk (hbox); have n5_ := Aside0.mk ((by rw [hg]; exact (keep_size (w := w) (g := g) (row := none) (by repeat (first | (with_reducible first | exact HK.out | apply KeepBut.set_ | apply keep_drewN | apply keep_drew | apply keep_alloc | refine keep_far ?_ GW155.out _) | exact HK.out))) : w.heap.size ≤ gb160)); have n6_ := Aside0.mk ((Nat.le_trans HW0.out (by rw [hg]; exact (keep_size (w := w) (g := g) (row := none) (by repeat (first | (with_reducible first | exact HK.out | apply KeepBut.set_ | apply keep_drewN | apply keep_drew | apply keep_alloc | refine keep_far ?_ GW155.out _) | exact HK.out))) : w.heap.size ≤ gb160) : w0.heap.size ≤ gb160)); have n7_ := Aside0.mk ((by rw [hg]; exact Nat.ne_of_lt (blk_lt (g := gb155) (o := .cells #[.int .i64 0, .string (⟨#[]⟩ : ByteArray), .int .i64 0] 56 (0, 0)) (by (with_reducible repeat (first | refine blk_drewN ?_ _ | refine blk_drew ?_ | refine blk_alloc ?_ _)); exact BK155.out)) : gb155 ≠ gb160)); have n8_ := Aside0.mk ((by rw [hg]; exact Nat.ne_of_gt (blk_lt (g := gb155) (o := .cells #[.int .i64 0, .string (⟨#[]⟩ : ByteArray), .int .i64 0] 56 (0, 0)) (by (with_reducible repeat (first | refine blk_drewN ?_ _ | refine blk_drew ?_ | refine blk_alloc ?_ _)); exact BK155.out)) : gb160 ≠ gb155)); have n9_ := Aside0.mk ((by rw [hg]; exact Nat.ne_of_lt (IsS60.lt (show IsS60 w0 _ g s0_0 t159 from by repeat (first | (with_reducible first | exact HI0.out | apply IsS60.alloc | apply IsS60.drewN | apply IsS60.drew | apply IsS60.set_1 | refine IsS60.far ?_ NB0_155.out _) | exact HI0.out))) : g ≠ gb160)); have n10_ := Aside0.mk ((by rw [hg]; exact Nat.ne_of_gt (IsS60.lt (show IsS60 w0 _ g s0_0 t159 from by repeat (first | (with_reducible first | exact HI0.out | apply IsS60.alloc | apply IsS60.drewN | apply IsS60.drew | apply IsS60.set_1 | refine IsS60.far ?_ NB0_155.out _) | exact HI0.out))) : gb160 ≠ g)); clear HI0; clear BK155; clear HK; clear HB; have HI0 := n0_; have BK155 := n1_; have HK := n2_; have HB := n3_; have BK160 := n4_; have GW160 := n5_; have GE160 := n6_; have NB155_160 := n7_; have NB160_155 := n8_; have NB0_160 := n9_; have NB160_0 := n10_; clear n0_ n1_ n2_ n3_ n4_ n5_ n6_ n7_ n8_ n9_ n10_; clear hb hbox hg; have hnb37 := NB160_155.out; have hnc37 := NB155_160.out; have hnb38 := NB160_0.out; have hnc38 := NB0_160.out; have hcz39_0 : w36.cell? ⟨gb160, 0, none⟩ = some (.int .i64 0) := (blk_cell BK160.out 0).trans rfl; have hcz39_1 : w36.cell? ⟨gb160, 1, none⟩ = some (.string (⟨#[]⟩ : ByteArray)) := (blk_cell BK160.out 1).trans rfl; have hcz39_2 : w36.cell? ⟨gb160, 2, none⟩ = some (.int .i64 0) := (blk_cell BK160.out 2).trans rfl; have hfz39_0 := blk_frozen BK160.out 0; have hfz39_1 := blk_frozen BK160.out 1; have hfz39_2 := blk_frozen BK160.out 2) | ((with_reducible refine gate_callee (f := 48) rfl ?_); refine goesL_ (some 13) rfl rfl Try.func48 (by kernel_rfl) rfl #[.int .i64 (wrap64 (1 + t156))] rfl (by (try simp only [List.map_toArray, List.map_cons, List.map_nil]); first | done | rfl | (simp only [List.length_drop, List.length_take]; rfl)) ?_; (with_reducible refine (payrollref32_Bare.calls (wrap64 (1 + t156)) false _ A4.out).mono ?_); rintro e w' ⟨rfl, ⟨nd, rfl⟩⟩; refine ⟨_, rfl, ?_⟩) | ((with_reducible refine gate_callee (f := 49) rfl ?_); refine goesL_ (some 16) rfl rfl Try.func49 (by kernel_rfl) rfl #[.pointer (some ⟨g, 0, none⟩)] rfl (by (try simp only [List.map_toArray, List.map_cons, List.map_nil]); first | done | rfl | (simp only [List.length_drop, List.length_take]; rfl)) ?_; (with_reducible refine (paygen_Deck_Code.calls g s0_0 t159 t164 t165 w0 _ ?side1 ?side2 A30.out).mono ?_); (case side1 => repeat (first | (with_reducible first | exact HI0.out | apply IsS60.alloc | apply IsS60.drewN | apply IsS60.drew | apply IsS60.set_1 | refine IsS60.far ?_ NB0_155.out _ | refine IsS60.far ?_ NB0_160.out _) | exact HI0.out)); (case side2 => repeat (first | (with_reducible first | exact HB.out | apply below_alloc | apply pw_below_drewN | apply below_drew1 | refine below_set ?_ (IsS60.ge HI0.out) | refine below_set ?_ GE155.out | refine below_set ?_ GE160.out) | exact HB.out)); rintro e w40 ⟨rfl, hi, hb, hk⟩; refine ⟨_, rfl, ?_⟩; have n0_ := Aside0.mk (KeepBut.blk hk (g' := gb155) (o := .cells #[.int .i64 0, .string (⟨#[]⟩ : ByteArray), .int .i64 0] 56 (0, 0)) (by (with_reducible repeat (first | refine blk_drewN ?_ _ | refine blk_drew ?_ | refine blk_alloc ?_ _)); refine blk_far ?_ NB155_160.out _; (with_reducible repeat (first | refine blk_drewN ?_ _ | refine blk_drew ?_ | refine blk_alloc ?_ _)); refine blk_far ?_ NB155_160.out _; (with_reducible repeat (first | refine blk_drewN ?_ _ | refine blk_drew ?_ | refine blk_alloc ?_ _)); refine blk_far ?_ NB155_160.out _; (with_reducible repeat (first | refine blk_drewN ?_ _ | refine blk_drew ?_ | refine blk_alloc ?_ _)); exact BK155.out) NB155_0.out (by simp)); have n1_ := Aside0.mk (KeepBut.blk hk (g' := gb160) (o := .cells #[.int .i64 (wrap64 (1 + t156)), .string (⟨#[]⟩ : ByteArray), .int .i64 (wrap64 (1 + t158))] 56 (0, 0)) (by (with_reducible repeat (first | refine blk_drewN ?_ _ | refine blk_drew ?_ | refine blk_alloc ?_ _)); refine blk_put (cs := #[.int .i64 (wrap64 (1 + t156)), .string (⟨#[]⟩ : ByteArray), .int .i64 0]) ?_ 2 _ rfl; (with_reducible repeat (first | refine blk_drewN ?_ _ | refine blk_drew ?_ | refine blk_alloc ?_ _)); refine blk_put (cs := #[.int .i64 (wrap64 (1 + t156)), .string (⟨#[]⟩ : ByteArray), .int .i64 0]) ?_ 1 _ rfl; (with_reducible repeat (first | refine blk_drewN ?_ _ | refine blk_drew ?_ | refine blk_alloc ?_ _)); refine blk_put (cs := #[.int .i64 0, .string (⟨#[]⟩ : ByteArray), .int .i64 0]) ?_ 0 _ rfl; (with_reducible repeat (first | refine blk_drewN ?_ _ | refine blk_drew ?_ | refine blk_alloc ?_ _)); exact BK160.out) NB160_0.out (by simp)); have n2_ := Aside0.mk (KeepBut.trans (by repeat (first | (with_reducible first | exact HK.out | apply KeepBut.set_ | apply keep_drewN | apply keep_drew | apply keep_alloc | refine keep_far ?_ GW155.out _ | refine keep_far ?_ GW160.out _) | exact HK.out)) hk (.inl rfl)); have n3_ := Aside0.mk (hb); have n4_ := Aside0.mk (hi); clear BK155; clear BK160; clear HK; clear HB; clear HI0; have BK155 := n0_; have BK160 := n1_; have HK := n2_; have HB := n3_; have HI0 := n4_; clear n0_ n1_ n2_ n3_ n4_; (try clear hb); (try clear hb2); (try clear hk); (try clear hi); have hcz41_0 : w40.cell? ⟨gb160, 0, none⟩ = some (.int .i64 (wrap64 (1 + t156))) := (blk_cell BK160.out 0).trans rfl; have hcz41_1 : w40.cell? ⟨gb160, 1, none⟩ = some (.string (⟨#[]⟩ : ByteArray)) := (blk_cell BK160.out 1).trans rfl; have hcz41_2 : w40.cell? ⟨gb160, 2, none⟩ = some (.int .i64 (wrap64 (1 + t158))) := (blk_cell BK160.out 2).trans rfl; have hfz41_0 := blk_frozen BK160.out 0; have hfz41_1 := blk_frozen BK160.out 1; have hfz41_2 := blk_frozen BK160.out 2) | ((with_reducible refine gate_callee (f := 28) rfl ?_); refine goesL_ (some 19) rfl rfl Try.func28 (by kernel_rfl) rfl #[.pointer (some ⟨g, 0, none⟩), .int .i64 3] rfl (by (try simp only [List.map_toArray, List.map_cons, List.map_nil]); first | done | rfl | (simp only [List.length_drop, List.length_take]; rfl)) ?_; (with_reducible refine (paygen_Deck_Next.calls g s0_0 t165 3 t166 t167 w0 _ ?side1 ?side2 A31.out).mono ?_); (case side1 => repeat (first | (with_reducible first | exact HI0.out | apply IsS60.alloc | apply IsS60.drewN | apply IsS60.drew | apply IsS60.set_1 | refine IsS60.far ?_ NB0_155.out _ | refine IsS60.far ?_ NB0_160.out _) | exact HI0.out)); (case side2 => repeat (first | (with_reducible first | exact HB.out | apply below_alloc | apply pw_below_drewN | apply below_drew1 | refine below_set ?_ (IsS60.ge HI0.out) | refine below_set ?_ GE155.out | refine below_set ?_ GE160.out) | exact HB.out)); rintro e w42 ⟨rfl, hi, hb, hk⟩; refine ⟨_, rfl, ?_⟩; have n0_ := Aside0.mk (KeepBut.blk hk (g' := gb155) (o := .cells #[.int .i64 0, .string (⟨#[]⟩ : ByteArray), .int .i64 0] 56 (0, 0)) (by (with_reducible repeat (first | refine blk_drewN ?_ _ | refine blk_drew ?_ | refine blk_alloc ?_ _)); refine blk_far ?_ NB155_160.out _; (with_reducible repeat (first | refine blk_drewN ?_ _ | refine blk_drew ?_ | refine blk_alloc ?_ _)); exact BK155.out) NB155_0.out (by simp)); have n1_ := Aside0.mk (KeepBut.blk hk (g' := gb160) (o := .cells #[.int .i64 (wrap64 (1 + t156)), .string t164, .int .i64 (wrap64 (1 + t158))] 56 (0, 0)) (by (with_reducible repeat (first | refine blk_drewN ?_ _ | refine blk_drew ?_ | refine blk_alloc ?_ _)); refine blk_put (cs := #[.int .i64 (wrap64 (1 + t156)), .string (⟨#[]⟩ : ByteArray), .int .i64 (wrap64 (1 + t158))]) ?_ 1 _ rfl; (with_reducible repeat (first | refine blk_drewN ?_ _ | refine blk_drew ?_ | refine blk_alloc ?_ _)); exact BK160.out) NB160_0.out (by simp)); have n2_ := Aside0.mk (KeepBut.trans (by repeat (first | (with_reducible first | exact HK.out | apply KeepBut.set_ | apply keep_drewN | apply keep_drew | apply keep_alloc | refine keep_far ?_ GW155.out _ | refine keep_far ?_ GW160.out _) | exact HK.out)) hk (.inl rfl)); have n3_ := Aside0.mk (hb); have n4_ := Aside0.mk (hi); clear BK155; clear BK160; clear HK; clear HB; clear HI0; have BK155 := n0_; have BK160 := n1_; have HK := n2_; have HB := n3_; have HI0 := n4_; clear n0_ n1_ n2_ n3_ n4_; (try clear hb); (try clear hb2); (try clear hk); (try clear hi); have hcz43_0 : w42.cell? ⟨gb160, 0, none⟩ = some (.int .i64 (wrap64 (1 + t156))) := (blk_cell BK160.out 0).trans rfl; have hcz43_1 : w42.cell? ⟨gb160, 1, none⟩ = some (.string t164) := (blk_cell BK160.out 1).trans rfl; have hcz43_2 : w42.cell? ⟨gb160, 2, none⟩ = some (.int .i64 (wrap64 (1 + t158))) := (blk_cell BK160.out 2).trans rfl; have hfz43_0 := blk_frozen BK160.out 0; have hfz43_1 := blk_frozen BK160.out 1; have hfz43_2 := blk_frozen BK160.out 2; have hnb44 := NB155_0.out; have hnc44 := NB0_155.out; have hcz45_0 : w42.cell? ⟨gb155, 0, none⟩ = some (.int .i64 0) := (blk_cell BK155.out 0).trans rfl; have hcz45_1 : w42.cell? ⟨gb155, 1, none⟩ = some (.string (⟨#[]⟩ : ByteArray)) := (blk_cell BK155.out 1).trans rfl; have hcz45_2 : w42.cell? ⟨gb155, 2, none⟩ = some (.int .i64 0) := (blk_cell BK155.out 2).trans rfl; have hfz45_0 := blk_frozen BK155.out 0; have hfz45_1 := blk_frozen BK155.out 1; have hfz45_2 := blk_frozen BK155.out 2))
      refine bodyPost_ret (results_cell_row rfl _ _ gb155 56 #[.int .i64 (wrap64 (1 + t156)), .string t164, .int .i64 (wrap64 (-(wrap64 (1 + t158))))] (0, 0) _ rfl (by (with_reducible repeat (first | refine blk_drewN ?_ _ | refine blk_drew ?_ | refine blk_alloc ?_ _)); refine blk_put (cs := #[.int .i64 (wrap64 (1 + t156)), .string t164, .int .i64 0]) ?_ 2 _ rfl; (with_reducible repeat (first | refine blk_drewN ?_ _ | refine blk_drew ?_ | refine blk_alloc ?_ _)); refine blk_put (cs := #[.int .i64 (wrap64 (1 + t156)), .string (⟨#[]⟩ : ByteArray), .int .i64 0]) ?_ 1 _ rfl; (with_reducible repeat (first | refine blk_drewN ?_ _ | refine blk_drew ?_ | refine blk_alloc ?_ _)); refine blk_put (cs := #[.int .i64 0, .string (⟨#[]⟩ : ByteArray), .int .i64 0]) ?_ 0 _ rfl; (with_reducible repeat (first | refine blk_drewN ?_ _ | refine blk_drew ?_ | refine blk_alloc ?_ _)); refine blk_far ?_ NB155_160.out _; (with_reducible repeat (first | refine blk_drewN ?_ _ | refine blk_drew ?_ | refine blk_alloc ?_ _)); exact BK155.out) Try.underlying56 rfl (by kernel_rfl)) rfl ?_
      exact ⟨by first | rfl | (simp [errW_none, errW_some] <;> rfl) | (simp [*, errW_none, errW_some] <;> rfl), by repeat (first | (with_reducible first | exact HI0.out | apply IsS60.alloc | apply IsS60.drewN | apply IsS60.drew | apply IsS60.set_1 | refine IsS60.far ?_ NB0_155.out _ | refine IsS60.far ?_ NB0_160.out _) | exact HI0.out), by repeat (first | (with_reducible first | exact HB.out | apply below_alloc | apply pw_below_drewN | apply below_drew1 | refine below_set ?_ (IsS60.ge HI0.out) | refine below_set ?_ GE155.out | refine below_set ?_ GE160.out) | exact HB.out), by repeat (first | (with_reducible first | exact HK.out | apply KeepBut.set_ | apply keep_drewN | apply keep_drew | apply keep_alloc | refine keep_far ?_ GW155.out _ | refine keep_far ?_ GW160.out _) | exact HK.out)⟩
    · rw [if_neg c32] at H
      have c32b0 : (t166 == 0) = false := beq_eq_false_iff_ne.mpr c32
      have c32b1 : (t166 != 0) = true := bne_iff_ne.mpr c32
      simp only [Option.some.injEq, Prod.mk.injEq] at H
      obtain ⟨rfl, rfl, rfl, rfl⟩ := H
      go_enter Try.func34, Try.ntmps34
      go_wp2_with (first | ((with_reducible refine gate_dst (N := 2) rfl ?_); refine box_event ?hg (N := 2) ?hd (cs := #[.int .i64 0, .string (⟨#[]⟩ : ByteArray), .int .i64 0]) (t := 56) ?hr ?_; (case hd => rfl); (case hg => rfl); (case hr => first | (go_simp; done) | (go_simp; rfl)); intro gb155 hg w46 hbox hb; have n0_ := Aside0.mk (IsS60.below (by repeat (first | (with_reducible first | exact HI0.out | apply IsS60.alloc | apply IsS60.drewN | apply IsS60.drew | apply IsS60.set_1) | exact HI0.out)) hb); have n1_ := Aside0.mk (KeepBut.trans (by repeat (first | (with_reducible first | exact HK.out | apply KeepBut.set_ | apply keep_drewN | apply keep_drew | apply keep_alloc) | exact HK.out)) (KeepBut.of_below hb g none) (.inl rfl)); have n2_ := Aside0.mk (below_step (by repeat (first | (with_reducible first | exact HB.out | apply below_alloc | apply pw_below_drewN | apply below_drew1 | refine below_set ?_ (IsS60.ge HI0.out)) | exact HB.out)) hb); have n3_ := Aside0.mk (hbox); have n4_ := Aside0.mk ((by rw [hg]; exact (keep_size (w := w) (g := g) (row := none) (by repeat (first | (with_reducible first | exact HK.out | apply KeepBut.set_ | apply keep_drewN | apply keep_drew | apply keep_alloc) | exact HK.out))) : w.heap.size ≤ gb155)); have n5_ := Aside0.mk ((Nat.le_trans HW0.out (by rw [hg]; exact (keep_size (w := w) (g := g) (row := none) (by repeat (first | (with_reducible first | exact HK.out | apply KeepBut.set_ | apply keep_drewN | apply keep_drew | apply keep_alloc) | exact HK.out))) : w.heap.size ≤ gb155) : w0.heap.size ≤ gb155)); have n6_ := Aside0.mk ((by rw [hg]; exact Nat.ne_of_lt (IsS60.lt (show IsS60 w0 _ g s0_0 s0_1 from by repeat (first | (with_reducible first | exact HI0.out | apply IsS60.alloc | apply IsS60.drewN | apply IsS60.drew | apply IsS60.set_1) | exact HI0.out))) : g ≠ gb155)); have n7_ := Aside0.mk ((by rw [hg]; exact Nat.ne_of_gt (IsS60.lt (show IsS60 w0 _ g s0_0 s0_1 from by repeat (first | (with_reducible first | exact HI0.out | apply IsS60.alloc | apply IsS60.drewN | apply IsS60.drew | apply IsS60.set_1) | exact HI0.out))) : gb155 ≠ g)); clear HI0; clear HK; clear HB; have HI0 := n0_; have HK := n1_; have HB := n2_; have BK155 := n3_; have GW155 := n4_; have GE155 := n5_; have NB0_155 := n6_; have NB155_0 := n7_; clear n0_ n1_ n2_ n3_ n4_ n5_ n6_ n7_; clear hb hbox hg) | ((with_reducible refine gate_callee (f := 28) rfl ?_); refine goesL_ (some 5) rfl rfl Try.func28 (by kernel_rfl) rfl #[.pointer (some ⟨g, 0, none⟩), .int .i64 10] rfl (by (try simp only [List.map_toArray, List.map_cons, List.map_nil]); first | done | rfl | (simp only [List.length_drop, List.length_take]; rfl)) ?_; (with_reducible refine (paygen_Deck_Next.calls g s0_0 s0_1 10 t156 t157 w0 _ ?side1 ?side2 A2.out).mono ?_); (case side1 => repeat (first | (with_reducible first | exact HI0.out | apply IsS60.alloc | apply IsS60.drewN | apply IsS60.drew | apply IsS60.set_1 | refine IsS60.far ?_ NB0_155.out _) | exact HI0.out)); (case side2 => repeat (first | (with_reducible first | exact HB.out | apply below_alloc | apply pw_below_drewN | apply below_drew1 | refine below_set ?_ (IsS60.ge HI0.out) | refine below_set ?_ GE155.out) | exact HB.out)); rintro e w47 ⟨rfl, hi, hb, hk⟩; refine ⟨_, rfl, ?_⟩; have n0_ := Aside0.mk (KeepBut.blk hk (g' := gb155) (o := .cells #[.int .i64 0, .string (⟨#[]⟩ : ByteArray), .int .i64 0] 56 (0, 0)) (by (with_reducible repeat (first | refine blk_drewN ?_ _ | refine blk_drew ?_ | refine blk_alloc ?_ _)); exact BK155.out) NB155_0.out (by simp)); have n1_ := Aside0.mk (KeepBut.trans (by repeat (first | (with_reducible first | exact HK.out | apply KeepBut.set_ | apply keep_drewN | apply keep_drew | apply keep_alloc | refine keep_far ?_ GW155.out _) | exact HK.out)) hk (.inl rfl)); have n2_ := Aside0.mk (hb); have n3_ := Aside0.mk (hi); clear BK155; clear HK; clear HB; clear HI0; have BK155 := n0_; have HK := n1_; have HB := n2_; have HI0 := n3_; clear n0_ n1_ n2_ n3_; (try clear hb); (try clear hb2); (try clear hk); (try clear hi)) | ((with_reducible refine gate_callee (f := 20) rfl ?_); refine goesL_ (some 8) rfl rfl Try.func20 (by kernel_rfl) rfl #[.pointer (some ⟨g, 0, none⟩)] rfl (by (try simp only [List.map_toArray, List.map_cons, List.map_nil]); first | done | rfl | (simp only [List.length_drop, List.length_take]; rfl)) ?_; (with_reducible refine (paygen_Deck_Small.calls g s0_0 t157 t158 t159 w0 _ ?side1 ?side2 A3.out).mono ?_); (case side1 => repeat (first | (with_reducible first | exact HI0.out | apply IsS60.alloc | apply IsS60.drewN | apply IsS60.drew | apply IsS60.set_1 | refine IsS60.far ?_ NB0_155.out _) | exact HI0.out)); (case side2 => repeat (first | (with_reducible first | exact HB.out | apply below_alloc | apply pw_below_drewN | apply below_drew1 | refine below_set ?_ (IsS60.ge HI0.out) | refine below_set ?_ GE155.out) | exact HB.out)); rintro e w48 ⟨rfl, hi, hb, hk⟩; refine ⟨_, rfl, ?_⟩; have n0_ := Aside0.mk (KeepBut.blk hk (g' := gb155) (o := .cells #[.int .i64 0, .string (⟨#[]⟩ : ByteArray), .int .i64 0] 56 (0, 0)) (by (with_reducible repeat (first | refine blk_drewN ?_ _ | refine blk_drew ?_ | refine blk_alloc ?_ _)); exact BK155.out) NB155_0.out (by simp)); have n1_ := Aside0.mk (KeepBut.trans (by repeat (first | (with_reducible first | exact HK.out | apply KeepBut.set_ | apply keep_drewN | apply keep_drew | apply keep_alloc | refine keep_far ?_ GW155.out _) | exact HK.out)) hk (.inl rfl)); have n2_ := Aside0.mk (hb); have n3_ := Aside0.mk (hi); clear BK155; clear HK; clear HB; clear HI0; have BK155 := n0_; have HK := n1_; have HB := n2_; have HI0 := n3_; clear n0_ n1_ n2_ n3_; (try clear hb); (try clear hb2); (try clear hk); (try clear hi)) | ((with_reducible refine gate_dst (N := 3) rfl ?_); refine box_event ?hg (N := 3) ?hd (cs := #[.int .i64 0, .string (⟨#[]⟩ : ByteArray), .int .i64 0]) (t := 56) ?hr ?_; (case hd => rfl); (case hg => rfl); (case hr => first | (go_simp; done) | (go_simp; rfl)); intro gb160 hg w49 hbox hb; have n0_ := Aside0.mk (IsS60.below (by repeat (first | (with_reducible first | exact HI0.out | apply IsS60.alloc | apply IsS60.drewN | apply IsS60.drew | apply IsS60.set_1 | refine IsS60.far ?_ NB0_155.out _) | exact HI0.out)) hb); have n1_ := Aside0.mk (blk_below (g := gb155) (o := .cells #[.int .i64 0, .string (⟨#[]⟩ : ByteArray), .int .i64 0] 56 (0, 0)) (by (with_reducible repeat (first | refine blk_drewN ?_ _ | refine blk_drew ?_ | refine blk_alloc ?_ _)); exact BK155.out) hb); have n2_ := Aside0.mk (KeepBut.trans (by repeat (first | (with_reducible first | exact HK.out | apply KeepBut.set_ | apply keep_drewN | apply keep_drew | apply keep_alloc | refine keep_far ?_ GW155.out _) | exact HK.out)) (KeepBut.of_below hb g none) (.inl rfl)); have n3_ := Aside0.mk (below_step (by repeat (first | (with_reducible first | exact HB.out | apply below_alloc | apply pw_below_drewN | apply below_drew1 | refine below_set ?_ (IsS60.ge HI0.out) | refine below_set ?_ GE155.out) | exact HB.out)) hb); have n4_ := Aside0.mk (hbox); have n5_ := Aside0.mk ((by rw [hg]; exact (keep_size (w := w) (g := g) (row := none) (by repeat (first | (with_reducible first | exact HK.out | apply KeepBut.set_ | apply keep_drewN | apply keep_drew | apply keep_alloc | refine keep_far ?_ GW155.out _) | exact HK.out))) : w.heap.size ≤ gb160)); have n6_ := Aside0.mk ((Nat.le_trans HW0.out (by rw [hg]; exact (keep_size (w := w) (g := g) (row := none) (by repeat (first | (with_reducible first | exact HK.out | apply KeepBut.set_ | apply keep_drewN | apply keep_drew | apply keep_alloc | refine keep_far ?_ GW155.out _) | exact HK.out))) : w.heap.size ≤ gb160) : w0.heap.size ≤ gb160)); have n7_ := Aside0.mk ((by rw [hg]; exact Nat.ne_of_lt (blk_lt (g := gb155) (o := .cells #[.int .i64 0, .string (⟨#[]⟩ : ByteArray), .int .i64 0] 56 (0, 0)) (by (with_reducible repeat (first | refine blk_drewN ?_ _ | refine blk_drew ?_ | refine blk_alloc ?_ _)); exact BK155.out)) : gb155 ≠ gb160)); have n8_ := Aside0.mk ((by rw [hg]; exact Nat.ne_of_gt (blk_lt (g := gb155) (o := .cells #[.int .i64 0, .string (⟨#[]⟩ : ByteArray), .int .i64 0] 56 (0, 0)) (by (with_reducible repeat (first | refine blk_drewN ?_ _ | refine blk_drew ?_ | refine blk_alloc ?_ _)); exact BK155.out)) : gb160 ≠ gb155)); have n9_ := Aside0.mk ((by rw [hg]; exact Nat.ne_of_lt (IsS60.lt (show IsS60 w0 _ g s0_0 t159 from by repeat (first | (with_reducible first | exact HI0.out | apply IsS60.alloc | apply IsS60.drewN | apply IsS60.drew | apply IsS60.set_1 | refine IsS60.far ?_ NB0_155.out _) | exact HI0.out))) : g ≠ gb160)); have n10_ := Aside0.mk ((by rw [hg]; exact Nat.ne_of_gt (IsS60.lt (show IsS60 w0 _ g s0_0 t159 from by repeat (first | (with_reducible first | exact HI0.out | apply IsS60.alloc | apply IsS60.drewN | apply IsS60.drew | apply IsS60.set_1 | refine IsS60.far ?_ NB0_155.out _) | exact HI0.out))) : gb160 ≠ g)); clear HI0; clear BK155; clear HK; clear HB; have HI0 := n0_; have BK155 := n1_; have HK := n2_; have HB := n3_; have BK160 := n4_; have GW160 := n5_; have GE160 := n6_; have NB155_160 := n7_; have NB160_155 := n8_; have NB0_160 := n9_; have NB160_0 := n10_; clear n0_ n1_ n2_ n3_ n4_ n5_ n6_ n7_ n8_ n9_ n10_; clear hb hbox hg; have hnb50 := NB160_155.out; have hnc50 := NB155_160.out; have hnb51 := NB160_0.out; have hnc51 := NB0_160.out; have hcz52_0 : w49.cell? ⟨gb160, 0, none⟩ = some (.int .i64 0) := (blk_cell BK160.out 0).trans rfl; have hcz52_1 : w49.cell? ⟨gb160, 1, none⟩ = some (.string (⟨#[]⟩ : ByteArray)) := (blk_cell BK160.out 1).trans rfl; have hcz52_2 : w49.cell? ⟨gb160, 2, none⟩ = some (.int .i64 0) := (blk_cell BK160.out 2).trans rfl; have hfz52_0 := blk_frozen BK160.out 0; have hfz52_1 := blk_frozen BK160.out 1; have hfz52_2 := blk_frozen BK160.out 2) | ((with_reducible refine gate_callee (f := 48) rfl ?_); refine goesL_ (some 13) rfl rfl Try.func48 (by kernel_rfl) rfl #[.int .i64 (wrap64 (1 + t156))] rfl (by (try simp only [List.map_toArray, List.map_cons, List.map_nil]); first | done | rfl | (simp only [List.length_drop, List.length_take]; rfl)) ?_; (with_reducible refine (payrollref32_Bare.calls (wrap64 (1 + t156)) false _ A4.out).mono ?_); rintro e w' ⟨rfl, ⟨nd, rfl⟩⟩; refine ⟨_, rfl, ?_⟩) | ((with_reducible refine gate_callee (f := 49) rfl ?_); refine goesL_ (some 16) rfl rfl Try.func49 (by kernel_rfl) rfl #[.pointer (some ⟨g, 0, none⟩)] rfl (by (try simp only [List.map_toArray, List.map_cons, List.map_nil]); first | done | rfl | (simp only [List.length_drop, List.length_take]; rfl)) ?_; (with_reducible refine (paygen_Deck_Code.calls g s0_0 t159 t164 t165 w0 _ ?side1 ?side2 A30.out).mono ?_); (case side1 => repeat (first | (with_reducible first | exact HI0.out | apply IsS60.alloc | apply IsS60.drewN | apply IsS60.drew | apply IsS60.set_1 | refine IsS60.far ?_ NB0_155.out _ | refine IsS60.far ?_ NB0_160.out _) | exact HI0.out)); (case side2 => repeat (first | (with_reducible first | exact HB.out | apply below_alloc | apply pw_below_drewN | apply below_drew1 | refine below_set ?_ (IsS60.ge HI0.out) | refine below_set ?_ GE155.out | refine below_set ?_ GE160.out) | exact HB.out)); rintro e w53 ⟨rfl, hi, hb, hk⟩; refine ⟨_, rfl, ?_⟩; have n0_ := Aside0.mk (KeepBut.blk hk (g' := gb155) (o := .cells #[.int .i64 0, .string (⟨#[]⟩ : ByteArray), .int .i64 0] 56 (0, 0)) (by (with_reducible repeat (first | refine blk_drewN ?_ _ | refine blk_drew ?_ | refine blk_alloc ?_ _)); refine blk_far ?_ NB155_160.out _; (with_reducible repeat (first | refine blk_drewN ?_ _ | refine blk_drew ?_ | refine blk_alloc ?_ _)); refine blk_far ?_ NB155_160.out _; (with_reducible repeat (first | refine blk_drewN ?_ _ | refine blk_drew ?_ | refine blk_alloc ?_ _)); refine blk_far ?_ NB155_160.out _; (with_reducible repeat (first | refine blk_drewN ?_ _ | refine blk_drew ?_ | refine blk_alloc ?_ _)); exact BK155.out) NB155_0.out (by simp)); have n1_ := Aside0.mk (KeepBut.blk hk (g' := gb160) (o := .cells #[.int .i64 (wrap64 (1 + t156)), .string (⟨#[]⟩ : ByteArray), .int .i64 (wrap64 (1 + t158))] 56 (0, 0)) (by (with_reducible repeat (first | refine blk_drewN ?_ _ | refine blk_drew ?_ | refine blk_alloc ?_ _)); refine blk_put (cs := #[.int .i64 (wrap64 (1 + t156)), .string (⟨#[]⟩ : ByteArray), .int .i64 0]) ?_ 2 _ rfl; (with_reducible repeat (first | refine blk_drewN ?_ _ | refine blk_drew ?_ | refine blk_alloc ?_ _)); refine blk_put (cs := #[.int .i64 (wrap64 (1 + t156)), .string (⟨#[]⟩ : ByteArray), .int .i64 0]) ?_ 1 _ rfl; (with_reducible repeat (first | refine blk_drewN ?_ _ | refine blk_drew ?_ | refine blk_alloc ?_ _)); refine blk_put (cs := #[.int .i64 0, .string (⟨#[]⟩ : ByteArray), .int .i64 0]) ?_ 0 _ rfl; (with_reducible repeat (first | refine blk_drewN ?_ _ | refine blk_drew ?_ | refine blk_alloc ?_ _)); exact BK160.out) NB160_0.out (by simp)); have n2_ := Aside0.mk (KeepBut.trans (by repeat (first | (with_reducible first | exact HK.out | apply KeepBut.set_ | apply keep_drewN | apply keep_drew | apply keep_alloc | refine keep_far ?_ GW155.out _ | refine keep_far ?_ GW160.out _) | exact HK.out)) hk (.inl rfl)); have n3_ := Aside0.mk (hb); have n4_ := Aside0.mk (hi); clear BK155; clear BK160; clear HK; clear HB; clear HI0; have BK155 := n0_; have BK160 := n1_; have HK := n2_; have HB := n3_; have HI0 := n4_; clear n0_ n1_ n2_ n3_ n4_; (try clear hb); (try clear hb2); (try clear hk); (try clear hi); have hcz54_0 : w53.cell? ⟨gb160, 0, none⟩ = some (.int .i64 (wrap64 (1 + t156))) := (blk_cell BK160.out 0).trans rfl; have hcz54_1 : w53.cell? ⟨gb160, 1, none⟩ = some (.string (⟨#[]⟩ : ByteArray)) := (blk_cell BK160.out 1).trans rfl; have hcz54_2 : w53.cell? ⟨gb160, 2, none⟩ = some (.int .i64 (wrap64 (1 + t158))) := (blk_cell BK160.out 2).trans rfl; have hfz54_0 := blk_frozen BK160.out 0; have hfz54_1 := blk_frozen BK160.out 1; have hfz54_2 := blk_frozen BK160.out 2) | ((with_reducible refine gate_callee (f := 28) rfl ?_); refine goesL_ (some 19) rfl rfl Try.func28 (by kernel_rfl) rfl #[.pointer (some ⟨g, 0, none⟩), .int .i64 3] rfl (by (try simp only [List.map_toArray, List.map_cons, List.map_nil]); first | done | rfl | (simp only [List.length_drop, List.length_take]; rfl)) ?_; (with_reducible refine (paygen_Deck_Next.calls g s0_0 t165 3 t166 t167 w0 _ ?side1 ?side2 A31.out).mono ?_); (case side1 => repeat (first | (with_reducible first | exact HI0.out | apply IsS60.alloc | apply IsS60.drewN | apply IsS60.drew | apply IsS60.set_1 | refine IsS60.far ?_ NB0_155.out _ | refine IsS60.far ?_ NB0_160.out _) | exact HI0.out)); (case side2 => repeat (first | (with_reducible first | exact HB.out | apply below_alloc | apply pw_below_drewN | apply below_drew1 | refine below_set ?_ (IsS60.ge HI0.out) | refine below_set ?_ GE155.out | refine below_set ?_ GE160.out) | exact HB.out)); rintro e w55 ⟨rfl, hi, hb, hk⟩; refine ⟨_, rfl, ?_⟩; have n0_ := Aside0.mk (KeepBut.blk hk (g' := gb155) (o := .cells #[.int .i64 0, .string (⟨#[]⟩ : ByteArray), .int .i64 0] 56 (0, 0)) (by (with_reducible repeat (first | refine blk_drewN ?_ _ | refine blk_drew ?_ | refine blk_alloc ?_ _)); refine blk_far ?_ NB155_160.out _; (with_reducible repeat (first | refine blk_drewN ?_ _ | refine blk_drew ?_ | refine blk_alloc ?_ _)); exact BK155.out) NB155_0.out (by simp)); have n1_ := Aside0.mk (KeepBut.blk hk (g' := gb160) (o := .cells #[.int .i64 (wrap64 (1 + t156)), .string t164, .int .i64 (wrap64 (1 + t158))] 56 (0, 0)) (by (with_reducible repeat (first | refine blk_drewN ?_ _ | refine blk_drew ?_ | refine blk_alloc ?_ _)); refine blk_put (cs := #[.int .i64 (wrap64 (1 + t156)), .string (⟨#[]⟩ : ByteArray), .int .i64 (wrap64 (1 + t158))]) ?_ 1 _ rfl; (with_reducible repeat (first | refine blk_drewN ?_ _ | refine blk_drew ?_ | refine blk_alloc ?_ _)); exact BK160.out) NB160_0.out (by simp)); have n2_ := Aside0.mk (KeepBut.trans (by repeat (first | (with_reducible first | exact HK.out | apply KeepBut.set_ | apply keep_drewN | apply keep_drew | apply keep_alloc | refine keep_far ?_ GW155.out _ | refine keep_far ?_ GW160.out _) | exact HK.out)) hk (.inl rfl)); have n3_ := Aside0.mk (hb); have n4_ := Aside0.mk (hi); clear BK155; clear BK160; clear HK; clear HB; clear HI0; have BK155 := n0_; have BK160 := n1_; have HK := n2_; have HB := n3_; have HI0 := n4_; clear n0_ n1_ n2_ n3_ n4_; (try clear hb); (try clear hb2); (try clear hk); (try clear hi); have hcz56_0 : w55.cell? ⟨gb160, 0, none⟩ = some (.int .i64 (wrap64 (1 + t156))) := (blk_cell BK160.out 0).trans rfl; have hcz56_1 : w55.cell? ⟨gb160, 1, none⟩ = some (.string t164) := (blk_cell BK160.out 1).trans rfl; have hcz56_2 : w55.cell? ⟨gb160, 2, none⟩ = some (.int .i64 (wrap64 (1 + t158))) := (blk_cell BK160.out 2).trans rfl; have hfz56_0 := blk_frozen BK160.out 0; have hfz56_1 := blk_frozen BK160.out 1; have hfz56_2 := blk_frozen BK160.out 2; have hnb57 := NB155_0.out; have hnc57 := NB0_155.out; have hcz58_0 : w55.cell? ⟨gb155, 0, none⟩ = some (.int .i64 0) := (blk_cell BK155.out 0).trans rfl; have hcz58_1 : w55.cell? ⟨gb155, 1, none⟩ = some (.string (⟨#[]⟩ : ByteArray)) := (blk_cell BK155.out 1).trans rfl; have hcz58_2 : w55.cell? ⟨gb155, 2, none⟩ = some (.int .i64 0) := (blk_cell BK155.out 2).trans rfl; have hfz58_0 := blk_frozen BK155.out 0; have hfz58_1 := blk_frozen BK155.out 1; have hfz58_2 := blk_frozen BK155.out 2))
      refine bodyPost_ret (results_cell_row rfl _ _ gb155 56 #[.int .i64 (wrap64 (1 + t156)), .string t164, .int .i64 (wrap64 (1 + t158))] (0, 0) _ rfl (by (with_reducible repeat (first | refine blk_drewN ?_ _ | refine blk_drew ?_ | refine blk_alloc ?_ _)); refine blk_put (cs := #[.int .i64 (wrap64 (1 + t156)), .string t164, .int .i64 0]) ?_ 2 _ rfl; (with_reducible repeat (first | refine blk_drewN ?_ _ | refine blk_drew ?_ | refine blk_alloc ?_ _)); refine blk_put (cs := #[.int .i64 (wrap64 (1 + t156)), .string (⟨#[]⟩ : ByteArray), .int .i64 0]) ?_ 1 _ rfl; (with_reducible repeat (first | refine blk_drewN ?_ _ | refine blk_drew ?_ | refine blk_alloc ?_ _)); refine blk_put (cs := #[.int .i64 0, .string (⟨#[]⟩ : ByteArray), .int .i64 0]) ?_ 0 _ rfl; (with_reducible repeat (first | refine blk_drewN ?_ _ | refine blk_drew ?_ | refine blk_alloc ?_ _)); exact BK155.out) Try.underlying56 rfl (by kernel_rfl)) rfl ?_
      exact ⟨by first | rfl | (simp [errW_none, errW_some] <;> rfl) | (simp [*, errW_none, errW_some] <;> rfl), by repeat (first | (with_reducible first | exact HI0.out | apply IsS60.alloc | apply IsS60.drewN | apply IsS60.drew | apply IsS60.set_1 | refine IsS60.far ?_ NB0_155.out _ | refine IsS60.far ?_ NB0_160.out _) | exact HI0.out), by repeat (first | (with_reducible first | exact HB.out | apply below_alloc | apply pw_below_drewN | apply below_drew1 | refine below_set ?_ (IsS60.ge HI0.out) | refine below_set ?_ GE155.out | refine below_set ?_ GE160.out) | exact HB.out), by repeat (first | (with_reducible first | exact HK.out | apply KeepBut.set_ | apply keep_drewN | apply keep_drew | apply keep_alloc | refine keep_far ?_ GW155.out _ | refine keep_far ?_ GW160.out _) | exact HK.out)⟩

/-! ### paygen_Deck_Lines: function 14 -/
def paygen_Deck_Lines.l0 : Nat → List (S56) → Int → List Int → Int → Option ((List (S56)) × Int)
  | 0, _, _, _, _ => none
  | k + 1, x5, x6, x1000, x1001 => if x6 > 0 then ((paygen_Deck_Line.f x1000 x1001).bind fun bt170 => (if x5.length < 4398046511104 then (paygen_Deck_Lines.l0 k (x5 ++ [(⟨bt170.1, bt170.2.1, bt170.2.2.1⟩ : S56)]) (wrap64 (x6 - 1)) x1000 bt170.2.2.2) else (none))) else (some (x5, x1001))
def paygen_Deck_Lines.f (k : Nat) (s0_0 : List Int) (s0_1 : Int) (a1 : Int) : Option ((List (S56)) × Int) := (paygen_Deck_Next.f s0_0 s0_1 (wrap64 (a1 + 1))).bind fun bt168 => (paygen_Deck_Lines.l0 k ([] : List (S56)) bt168.1 s0_0 bt168.2)
theorem paygen_Deck_Lines.mono_l : ∀ k, (∀ y0 y1 y2 y3, LeO (paygen_Deck_Lines.l0 k y0 y1 y2 y3) (paygen_Deck_Lines.l0 (k + 1) y0 y1 y2 y3))
  | 0 => fun _ _ _ _ r h => by simp [paygen_Deck_Lines.l0] at h
  | k + 1 => by
    have ih0 := paygen_Deck_Lines.mono_l k
    · intro y0 y1 y2 y3
      unfold paygen_Deck_Lines.l0
      repeat' first
      | (with_reducible exact ih0 _ _ _ _)
      | (with_reducible exact LeO.refl _)
      | (with_reducible exact LeO.none _)
      | (with_reducible refine LeO.ite ?_ ?_)
      | (with_reducible refine LeO.bind ?_ (fun _ => ?_))
      | exact ih0 _ _ _ _
      | exact LeO.none _
      | refine LeO.ite ?_ ?_
      | refine LeO.bind ?_ (fun _ => ?_)
theorem paygen_Deck_Lines.mono : ∀ a0 a1 a2 k, LeO (paygen_Deck_Lines.f k a0 a1 a2) (paygen_Deck_Lines.f (k + 1) a0 a1 a2) := by
  intro a0 a1 a2 k
  have ih0 := paygen_Deck_Lines.mono_l k
  unfold paygen_Deck_Lines.f
  repeat' first
      | (with_reducible exact ih0 _ _ _ _)
      | (with_reducible exact LeO.refl _)
      | (with_reducible exact LeO.none _)
      | (with_reducible refine LeO.ite ?_ ?_)
      | (with_reducible refine LeO.bind ?_ (fun _ => ?_))
      | exact ih0 _ _ _ _
      | exact LeO.none _
      | refine LeO.ite ?_ ?_
      | refine LeO.bind ?_ (fun _ => ?_)
set_option maxHeartbeats 8000000 in
set_option maxRecDepth 100000 in
theorem paygen_Deck_Lines.calls (k : Nat) (g : Nat) (s0_0 : List Int) (s0_1 : Int) (a1 : Int) (r1 : List (S56)) (r2 : Int) (w0 w : World) (hI : IsS60 w0 w g s0_0 s0_1) (hB : Below w0.heap.size w0 w) (h : paygen_Deck_Lines.f k s0_0 s0_1 a1 = some (r1, r2)) :
    Calls Try.prog 14 #[.pointer (some ⟨g, 0, none⟩), .int .i64 a1] w fun e w' => ∃ v0_ : Value, e = .returned (v0_) ∧ Kd.R k56 56 w' w.heap.size (fun _ => True) v0_ r1 ∧ IsS60 w0 w' g s0_0 r2 ∧ Below w0.heap.size w0 w' ∧ KeepBut w w' g none := by
  have HI0 := Aside0.mk hI
  have HK := Aside0.mk (KeepBut.refl w g none)
  have HL := Aside0.mk hB.size
  clear hI
  have HW0 := Aside0.mk hB.size
  have HB := Aside0.mk hB
  clear hB
  have H : ((paygen_Deck_Next.f s0_0 s0_1 (wrap64 (a1 + 1))).bind fun bt168 => (paygen_Deck_Lines.l0 k ([] : List (S56)) bt168.1 s0_0 bt168.2)) = some (r1, r2) := h
  clear h
  replace H := Option.bind_eq_some_iff.mp H
  obtain ⟨⟨t168, t169⟩, A30, H⟩ := H
  replace H : (paygen_Deck_Lines.l0 k ([] : List (S56)) t168 s0_0 t169) = some (r1, r2) := H
  have A3 := Aside0.mk A30
  clear A30
  have H' := Aside0.mk H
  clear H
  go_enter Try.func14, Try.ntmps14
  go_wp2_with (first | ((with_reducible refine gate_callee (f := 28) rfl ?_); refine goesL_ (some 10) rfl rfl Try.func28 (by kernel_rfl) rfl #[.pointer (some ⟨g, 0, none⟩), .int .i64 (wrap64 (a1 + 1))] rfl (by (try simp only [List.map_toArray, List.map_cons, List.map_nil]); first | done | rfl | (simp only [List.length_drop, List.length_take]; rfl)) ?_; (with_reducible refine (paygen_Deck_Next.calls g s0_0 s0_1 (wrap64 (a1 + 1)) t168 t169 w0 _ ?side1 ?side2 A3.out).mono ?_); (case side1 => repeat (first | (with_reducible first | exact HI0.out | apply IsS60.alloc | apply IsS60.drewN | apply IsS60.drew | apply IsS60.set_1) | exact HI0.out)); (case side2 => repeat (first | (with_reducible first | exact HB.out | apply below_alloc | apply pw_below_drewN | apply below_drew1 | refine below_set ?_ (IsS60.ge HI0.out)) | exact HB.out)); rintro e w4 ⟨rfl, hi, hb, hk⟩; refine ⟨_, rfl, ?_⟩; have n0_ := Aside0.mk (KeepBut.trans (by repeat (first | (with_reducible first | exact HK.out | apply KeepBut.set_ | apply keep_drewN | apply keep_drew | apply keep_alloc) | exact HK.out)) hk (.inl rfl)); have n1_ := Aside0.mk (hb); have n2_ := Aside0.mk (hi); clear HK; clear HB; clear HI0; have HK := n0_; have HB := n1_; have HI0 := n2_; clear n0_ n1_ n2_; (try clear hb); (try clear hb2); (try clear hk); (try clear hi)))
  go_loopg [5, 6] k (fun kq v5 v6 w' => ∃ (x5_1 : List (S56)) (x6_1 : Int) (x1001_1 : Int), v6 = .int .i64 x6_1 ∧ Aside0 (paygen_Deck_Lines.l0 kq x5_1 x6_1 s0_0 x1001_1 = some (r1, r2)) ∧ Aside0 (kq ≤ k) ∧ Aside0 (Kd.R k56 56 w' w.heap.size (fun _ => True) v5 x5_1) ∧ Aside0 (IsS60 w0 w' g s0_0 x1001_1) ∧ Aside0 (KeepBut w w' g none) ∧ Aside0 (Below w0.heap.size w0 w'))
  case atStart => exact ⟨(([] : List (S56))), (t168), (t169), (by first | rfl | (simp; done) | (simp [*]; done)), H', ⟨Nat.le_refl _⟩, ⟨by first | exact Kd.R_nil _ _ _ _ _ | exact Kd.N_nil _ _ _ _ _ | exact Kd.V_nil _ _ _ _ _ | exact Kd.Q_nil _ _ _ _ _ | exact Kd.S_nil _ _ _ _ _⟩, ⟨by repeat (first | (with_reducible first | exact HI0.out | apply IsS60.alloc | apply IsS60.drewN | apply IsS60.drew | apply IsS60.set_1) | exact HI0.out)⟩, ⟨by repeat (first | (with_reducible first | exact HK.out | apply KeepBut.set_ | apply keep_drewN | apply keep_drew | apply keep_alloc) | exact HK.out)⟩, ⟨by repeat (first | (with_reducible first | exact HB.out | apply below_alloc | apply pw_below_drewN | apply below_drew1 | refine below_set ?_ (IsS60.ge HI0.out)) | exact HB.out)⟩⟩
  case round =>
    clear H'
    try clear c1
    try clear c2
    try clear p2
    obtain ⟨x5_1, x6_1, x1001_1, rfl, HA, HK1, HO_5, HI0, HK, HB⟩ := hrel
    cases gk with
    | zero => exact absurd HA.out (by simp [paygen_Deck_Lines.l0])
    | succ k1 =>
      have H := HA.out
      clear HA
      simp only [paygen_Deck_Lines.l0] at H
      by_cases c5 : x6_1 > 0
      · rw [if_pos c5] at H
        have c5b0 : decide (0 < x6_1) = true := decide_eq_true c5
        clear c5
        replace H := Option.bind_eq_some_iff.mp H
        obtain ⟨⟨t170, t171, t172, t173⟩, A60, H⟩ := H
        replace H : (if x5_1.length < 4398046511104 then (paygen_Deck_Lines.l0 k1 (x5_1 ++ [(⟨t170, t171, t172⟩ : S56)]) (wrap64 (x6_1 - 1)) s0_0 t173) else (none)) = some (r1, r2) := H
        have A6 := Aside0.mk A60
        clear A60
        by_cases c7 : x5_1.length < 4398046511104
        · rw [if_pos c7] at H
          have LMc7 := Aside0.mk c7
          clear c7
          obtain ⟨y174, hy174⟩ : ∃ y_ : List (S56), y_ = (x5_1 ++ [(⟨t170, t171, t172⟩ : S56)]) := ⟨_, rfl⟩
          replace H : (paygen_Deck_Lines.l0 k1 y174 (wrap64 (x6_1 - 1)) s0_0 t173) = some (r1, r2) := by first | (rw [hy174]; with_reducible exact H) | (have H2_ := (Option.bind_some _ _).symm.trans H; rw [hy174]; with_reducible exact H2_) | (have H2_ := (Option.bind_some _ _).symm.trans H; with_reducible exact H2_) | with_reducible exact H | (rw [hy174]; exact H) | exact H
          have Ny174 := Aside0.mk hy174
          clear hy174
          have H' := Aside0.mk H
          clear H
          go_wp2_with (first | ((with_reducible refine gate_callee (f := 34) rfl ?_); refine goesL_ (some 17) rfl rfl Try.func34 (by kernel_rfl) rfl #[.pointer (some ⟨g, 0, none⟩)] rfl (by (try simp only [List.map_toArray, List.map_cons, List.map_nil]); first | done | rfl | (simp only [List.length_drop, List.length_take]; rfl)) ?_; (with_reducible refine (paygen_Deck_Line.calls g s0_0 x1001_1 t170 t171 t172 t173 w0 _ ?side1 ?side2 A6.out).mono ?_); (case side1 => repeat (first | (with_reducible first | exact HI0.out | apply IsS60.alloc | apply IsS60.drewN | apply IsS60.drew | apply IsS60.set_1) | exact HI0.out)); (case side2 => repeat (first | (with_reducible first | exact HB.out | apply below_alloc | apply pw_below_drewN | apply below_drew1 | refine below_set ?_ (IsS60.ge HI0.out)) | exact HB.out)); rintro e w8 ⟨rfl, hi, hb, hk⟩; refine ⟨_, rfl, ?_⟩; have n0_ := Aside0.mk (Kd.R_mono (Kd.R_keep (IsS60.apart (show IsS60 w0 _ g s0_0 x1001_1 from by repeat (first | (with_reducible first | exact HI0.out | apply IsS60.alloc | apply IsS60.drewN | apply IsS60.drew | apply IsS60.set_1) | exact HI0.out)) (by (with_reducible repeat (first | apply Kd.R_alloc | apply Kd.R_drewN | apply Kd.R_drew)); exact HO_5.out) (by decide)) hk (fun _ h => h.2)) (fun _ h => h.1)); have n1_ := Aside0.mk (KeepBut.trans (by repeat (first | (with_reducible first | exact HK.out | apply KeepBut.set_ | apply keep_drewN | apply keep_drew | apply keep_alloc) | exact HK.out)) hk (.inl rfl)); have n2_ := Aside0.mk (hb); have n3_ := Aside0.mk (hi); clear HO_5; clear HK; clear HB; clear HI0; have HO_5 := n0_; have HK := n1_; have HB := n2_; have HI0 := n3_; clear n0_ n1_ n2_ n3_; (try clear hb); (try clear hb2); (try clear hk); (try clear hi)) | ((with_reducible refine gate_builtin (b := .append) (xs := #[.tmp 15, .tmp 18]) rfl ?_); at_builtin; refine Kd.R_append k56 w.heap.size rfl (.tmp 15) (.tmp 18) 23 56 (.agg #[(.int .i64 0), (.string ⟨#[]⟩), (.int .i64 0)]) 32 rfl Try.underlying23 info56 rfl (by decide) (by omega) u5 x5_1 (⟨t170, t171, t172⟩ : S56) [.int .i64 t170, .string t171, .int .i64 t172] (fun _ => True) (fun _ => False) rfl rfl ?aP (fun _ hk => hk.elim) ?aF ?aO (Below.refl _ _) ?aS ?aL ?_; (case aP => exact k56_mkM _ _ _ (⟨t170, t171, t172⟩ : S56)); (case aF => exact (fun _ _ => trivial)); (case aO => exact (by (with_reducible repeat (first | apply Kd.R_alloc | apply Kd.R_drewN | apply Kd.R_drew)); exact HO_5.out)); (case aS => exact (keep_size (w := w) (g := g) (row := none) (by repeat (first | (with_reducible first | exact HK.out | apply KeepBut.set_ | apply keep_drewN | apply keep_drew | apply keep_alloc) | exact HK.out)))); (case aL => have := LMc7.out; omega); intro v175 w9 ho hb hg hat; rw [← Ny174.out] at ho; have n0_ := Aside0.mk (IsS60.grown (by repeat (first | (with_reducible first | exact HI0.out | apply IsS60.alloc | apply IsS60.drewN | apply IsS60.drew | apply IsS60.set_1) | exact HI0.out)) hg (IsS60.own_ne HI0.out HO_5.out (by decide))); have n1_ := Aside0.mk (below_weaken (by repeat (first | (with_reducible first | exact HB.out | apply below_alloc | apply pw_below_drewN | apply below_drew1 | refine below_set ?_ (IsS60.ge HI0.out)) | exact HB.out)) HL.out hb); have n2_ := Aside0.mk (KeepBut.trans (by repeat (first | (with_reducible first | exact HK.out | apply KeepBut.set_ | apply keep_drewN | apply keep_drew | apply keep_alloc) | exact HK.out)) (KeepBut.of_grown hg g) (Kd.R_base2 HO_5.out)); have n3_ := Aside0.mk (ho); clear HI0; clear HB; clear HK; clear HO_5; have HI0 := n0_; have HB := n1_; have HK := n2_; have HO176 := n3_; clear n0_ n1_ n2_ n3_; clear ho hb hg hat))
          go_roundg k1
          case measure => have := HK1.out; omega
          case rel => exact ⟨(y174), (wrap64 (x6_1 - 1)), (t173), (by first | rfl | (simp; done) | (simp [*]; done)), H', ⟨by have := HK1.out; omega⟩, ⟨by (with_reducible repeat (first | apply Kd.R_alloc | apply Kd.R_drewN | apply Kd.R_drew)); exact HO176.out⟩, ⟨by repeat (first | (with_reducible first | exact HI0.out | apply IsS60.alloc | apply IsS60.drewN | apply IsS60.drew | apply IsS60.set_1) | exact HI0.out)⟩, ⟨by repeat (first | (with_reducible first | exact HK.out | apply KeepBut.set_ | apply keep_drewN | apply keep_drew | apply keep_alloc) | exact HK.out)⟩, ⟨by repeat (first | (with_reducible first | exact HB.out | apply below_alloc | apply pw_below_drewN | apply below_drew1 | refine below_set ?_ (IsS60.ge HI0.out)) | exact HB.out)⟩⟩
        · rw [if_neg c7] at H
          exact absurd H (by simp)
      · rw [if_neg c5] at H
        have c5b0 : decide (0 < x6_1) = false := decide_eq_false c5
        clear c5
        simp only [Option.some.injEq, Prod.mk.injEq] at H
        obtain ⟨rfl, rfl⟩ := H
        go_wp2
        go_ret
        exact ⟨_, by first | rfl | (simp [errW_none, errW_some] <;> rfl) | (simp [*, errW_none, errW_some] <;> rfl), by (with_reducible repeat (first | apply Kd.R_alloc | apply Kd.R_drewN | apply Kd.R_drew)); exact HO_5.out, by repeat (first | (with_reducible first | exact HI0.out | apply IsS60.alloc | apply IsS60.drewN | apply IsS60.drew | apply IsS60.set_1) | exact HI0.out), by repeat (first | (with_reducible first | exact HB.out | apply below_alloc | apply pw_below_drewN | apply below_drew1 | refine below_set ?_ (IsS60.ge HI0.out)) | exact HB.out), by repeat (first | (with_reducible first | exact HK.out | apply KeepBut.set_ | apply keep_drewN | apply keep_drew | apply keep_alloc) | exact HK.out)⟩

end Go.Proofs.Ytdlljjglmcpniaa.Q
