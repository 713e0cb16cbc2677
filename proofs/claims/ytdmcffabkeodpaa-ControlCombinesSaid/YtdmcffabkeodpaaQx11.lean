-- Printed by wip/xprint.py over the translation, with contracts proved by hand among them. Lean checks it.
import Derived.Test.YtdmcffabkeodpaaQx0
import Derived.Test.YtdmcffabkeodpaaQx8
namespace Go.Proofs.Ytdmcffabkeodpaa.Q
open Go.RowKit Go.Proofs.YtdmcffabkeodpaaW.PrintWords Go.Proofs.YtdmcffabkeodpaaW.PrintLast Go.Proofs.YtdmcffabkeodpaaW.PrintMore
attribute [local go_sem] max2_int min2_int max_two min_two max_three min_three max_four min_four   -- for this text's walks alone
set_option linter.unusedVariables false
set_option linter.unusedSimpArgs false

/-! ### payrollref39_Split: function 22 -/
def payrollref39_Split.l0 : Nat → List (S29) → Int → List (List (S29)) → Int → Option ((List (List (S29))) × Int)
  | 0, _, _, _, _ => none
  | k + 1, x0, x1, x8, x9 => if x9 < (x0.length : Int) then (if (x8.length : Int) = 0 then (if x8.length < 5864062014805 then ((some (x8 ++ [[]] : List (List (S29)))).bind fun y306 => (if 0 ≤ (wrap64 ((y306.length : Int) - 1)) then (if (wrap64 ((y306.length : Int) - 1)) < (y306.length : Int) then (if 0 ≤ x9 then (if (rd_L2 y306 (wrap64 ((y306.length : Int) - 1))).length < 8796093022208 then (payrollref39_Split.l0 k x0 x1 (y306.set ((wrap64 ((y306.length : Int) - 1)) : Int).toNat ((rd_L2 y306 (wrap64 ((y306.length : Int) - 1))) ++ [(⟨(rd_T29 x0 x9).f0, (rd_T29 x0 x9).f1⟩ : S29)])) (wrap64 (x9 + 1))) else (none)) else (none)) else (none)) else (none))) else (none)) else (if 0 ≤ (wrap64 ((x8.length : Int) - 1)) then (if (wrap64 ((x8.length : Int) - 1)) < (x8.length : Int) then (if ((rd_L2 x8 (wrap64 ((x8.length : Int) - 1))).length : Int) = x1 then (if x8.length < 5864062014805 then ((some (x8 ++ [[]] : List (List (S29)))).bind fun y316 => (if 0 ≤ (wrap64 ((y316.length : Int) - 1)) then (if (wrap64 ((y316.length : Int) - 1)) < (y316.length : Int) then (if 0 ≤ x9 then (if (rd_L2 y316 (wrap64 ((y316.length : Int) - 1))).length < 8796093022208 then (payrollref39_Split.l0 k x0 x1 (y316.set ((wrap64 ((y316.length : Int) - 1)) : Int).toNat ((rd_L2 y316 (wrap64 ((y316.length : Int) - 1))) ++ [(⟨(rd_T29 x0 x9).f0, (rd_T29 x0 x9).f1⟩ : S29)])) (wrap64 (x9 + 1))) else (none)) else (none)) else (none)) else (none))) else (none)) else (if 0 ≤ x9 then (if (rd_L2 x8 (wrap64 ((x8.length : Int) - 1))).length < 8796093022208 then (payrollref39_Split.l0 k x0 x1 (x8.set ((wrap64 ((x8.length : Int) - 1)) : Int).toNat ((rd_L2 x8 (wrap64 ((x8.length : Int) - 1))) ++ [(⟨(rd_T29 x0 x9).f0, (rd_T29 x0 x9).f1⟩ : S29)])) (wrap64 (x9 + 1))) else (none)) else (none))) else (none)) else (none))) else (some (x8, 0))
def payrollref39_Split.f (k : Nat) (l0 : List (S29)) (a1 : Int) : Option ((List (List (S29))) × Int) := (payrollref39_Of.f k l0).bind fun bt301 => (if bt301.2.2.2 = 0 then (if a1 < 1 then (some (([] : List (List (S29))), 2)) else (payrollref39_Split.l0 k l0 a1 ([] : List (List (S29))) 0)) else (some (([] : List (List (S29))), bt301.2.2.2)))
theorem payrollref39_Split.mono_l : ∀ k, (∀ y0 y1 y2 y3, LeO (payrollref39_Split.l0 k y0 y1 y2 y3) (payrollref39_Split.l0 (k + 1) y0 y1 y2 y3))
  | 0 => fun _ _ _ _ r h => by simp [payrollref39_Split.l0] at h
  | k + 1 => by
    have ih0 := payrollref39_Split.mono_l k
    · intro y0 y1 y2 y3
      unfold payrollref39_Split.l0
      repeat' first
      | (with_reducible exact ih0 _ _ _ _)
      | (with_reducible exact payrollref39_Of.mono _ _)
      | (with_reducible exact LeO.refl _)
      | (with_reducible exact LeO.none _)
      | (with_reducible refine LeO.ite ?_ ?_)
      | (with_reducible refine LeO.bind ?_ (fun _ => ?_))
      | exact ih0 _ _ _ _
      | exact payrollref39_Of.mono _ _
      | exact LeO.none _
      | refine LeO.ite ?_ ?_
      | refine LeO.bind ?_ (fun _ => ?_)
theorem payrollref39_Split.mono : ∀ a0 a1 k, LeO (payrollref39_Split.f k a0 a1) (payrollref39_Split.f (k + 1) a0 a1) := by
  intro a0 a1 k
  have ih0 := payrollref39_Split.mono_l k
  unfold payrollref39_Split.f
  repeat' first
      | (with_reducible exact ih0 _ _ _ _)
      | (with_reducible exact payrollref39_Of.mono _ _)
      | (with_reducible exact LeO.refl _)
      | (with_reducible exact LeO.none _)
      | (with_reducible refine LeO.ite ?_ ?_)
      | (with_reducible refine LeO.bind ?_ (fun _ => ?_))
      | exact ih0 _ _ _ _
      | exact payrollref39_Of.mono _ _
      | exact LeO.none _
      | refine LeO.ite ?_ ?_
      | refine LeO.bind ?_ (fun _ => ?_)
def payrollref39_Split.T12 : Bool × List (List Nat × List Nat) := (true, [([], []), ([], []), ([1], [1]), ([2], [2]), ([], []), ([], []), ([5], [5]), ([6], [6]), ([4, 7], [4, 7]), ([8], [8]), ([], []), ([], []), ([10, 11], [10, 11]), ([12], [12]), ([13], [13]), ([9, 14], [9, 14]), ([0, 3, 0, 1, 2, 3, 4, 5, 6, 7, 8, 9, 10, 11, 12, 13, 14, 15], [0, 3]), ([16, 15, 15, 0, 1, 2, 3, 4, 5, 6, 7, 8, 9, 10, 11, 12, 13, 14, 15], [15, 16])])
def payrollref39_Split.B12 : List Nat := [0, 0, 2, 6, 0, 0, 32, 96, 240, 496, 0, 0, 3072, 7168, 15360, 32752, 65535, 131071]
theorem payrollref39_Split.tab12 : rtab .any (opsOf Try.f22 12) = payrollref39_Split.T12 := by kernel_rfl
theorem payrollref39_Split.bits12 : waitsOk payrollref39_Split.T12.2 payrollref39_Split.B12 = true := by kernel_rfl
set_option maxHeartbeats 8000000 in
set_option maxRecDepth 100000 in
theorem payrollref39_Split.calls (k : Nat) (A0 : Option Addr) (c0 : Nat) (l0 : List (S29)) (a1 : Int) (r1 : List (List (S29))) (r2 : Int) (w : World) (hr0 : Kd.C k29 w A0 l0.length l0) (hc0 : l0.length ≤ c0) (h : payrollref39_Split.f k l0 a1 = some (r1, r2)) :
    Calls Try.prog 22 #[.slice A0 l0.length c0, .int .i64 a1] w fun e w' => ∃ v0_ : Value, e = .returned (.tuple #[v0_, .int .i64 r2]) ∧ Kd.S (Kd.slice 29 k29) 25 w' w.heap.size (fun _ => True) v0_ r1 ∧ Below w.heap.size w w' := by
  have hu34 := Try.underlying34
  have hu29 := Try.underlying29
  have HR0 := Aside0.mk hr0
  have HC0 := Aside0.mk hc0
  clear hr0 hc0
  have HB := Aside0.mk (Below.refl w.heap.size w)
  have H : ((payrollref39_Of.f k l0).bind fun bt301 => (if bt301.2.2.2 = 0 then (if a1 < 1 then (some (([] : List (List (S29))), 2)) else (payrollref39_Split.l0 k l0 a1 ([] : List (List (S29))) 0)) else (some (([] : List (List (S29))), bt301.2.2.2)))) = some (r1, r2) := h
  clear h
  replace H := Option.bind_eq_some_iff.mp H
  obtain ⟨⟨t301, t302, t303, t304⟩, A30, H⟩ := H
  replace H : (if t304 = 0 then (if a1 < 1 then (some (([] : List (List (S29))), 2)) else (payrollref39_Split.l0 k l0 a1 ([] : List (List (S29))) 0)) else (some (([] : List (List (S29))), t304))) = some (r1, r2) := H
  have A3 := Aside0.mk A30
  clear A30
  by_cases c4 : t304 = 0
  · rw [if_pos c4] at H
    have c4b0 : (t304 == 0) = true := beq_iff_eq.mpr c4
    have c4b1 : (t304 != 0) = false := bne_eq_false_iff_eq.mpr c4
    clear c4
    by_cases c5 : a1 < 1
    · rw [if_pos c5] at H
      have c5b0 : decide (a1 < 1) = true := decide_eq_true c5
      clear c5
      simp only [Option.some.injEq, Prod.mk.injEq] at H
      obtain ⟨rfl, rfl⟩ := H
      go_enter Try.func22, Try.ntmps22
      go_wp2_with (first | ((with_reducible refine gate_callee (f := 24) rfl ?_); refine goesL_ (some 12) rfl rfl Try.func24 (by kernel_rfl) rfl #[.slice A0 l0.length c0] rfl (by (try simp only [List.map_toArray, List.map_cons, List.map_nil]); first | done | rfl | (simp only [List.length_drop, List.length_take]; rfl)) ?_; (with_reducible refine (payrollref39_Of.calls k _ _ l0 t301 t302 t303 t304 _ ?side1 ?side2 A3.out).mono ?_); (case side1 => repeat (first | exact HR0.out | (with_reducible refine Kd.C_alloc ?_ _) | (with_reducible refine Kd.C_drewN ?_ _) | (with_reducible refine Kd.C_drew ?_))); (case side2 => exact HC0.out); rintro e w6 ⟨rfl, hb⟩; refine ⟨_, rfl, ?_⟩; have n0_ := Aside0.mk (below_step (by repeat (first | (with_reducible first | exact HB.out | apply below_alloc | apply pw_below_drewN | apply below_drew1) | exact HB.out)) hb); clear HB; have HB := n0_; clear n0_; (try clear hb); (try clear hb2); (try clear hk); (try clear hi)) | ((with_reducible refine gate_dst (N := 6) rfl ?_); (try (refine gate_guard (by rfl) ?_; dsimp only)); refine box_event ?hg (N := 6) ?hd (cs := #[.int .i64 0, .int .i64 0, .int .i64 0]) (t := 34) ?hr ?_; (case hd => rfl); (case hg => rfl); (case hr => first | (go_simp; done) | (go_simp; rfl)); intro gb305 hg w7 hbox hb; have n0_ := Aside0.mk (below_step (by repeat (first | (with_reducible first | exact HB.out | apply below_alloc | apply pw_below_drewN | apply below_drew1) | exact HB.out)) hb); have n1_ := Aside0.mk (hbox); have n2_ := Aside0.mk ((by rw [hg]; exact (below_size (by repeat (first | (with_reducible first | exact HB.out | apply below_alloc | apply pw_below_drewN | apply below_drew1) | exact HB.out))) : w.heap.size ≤ gb305)); have n3_ := Aside0.mk ((by rw [hg]; exact (below_size (by repeat (first | (with_reducible first | exact HB.out | apply below_alloc | apply pw_below_drewN | apply below_drew1) | exact HB.out))) : w.heap.size ≤ gb305)); clear HB; have HB := n0_; have BK305 := n1_; have GW305 := n2_; have GE305 := n3_; clear n0_ n1_ n2_ n3_; clear hb hbox hg; have hcz8_0 : w7.cell? ⟨gb305, 0, none⟩ = some (.int .i64 0) := (blk_cell BK305.out 0).trans rfl; have hcz8_1 : w7.cell? ⟨gb305, 1, none⟩ = some (.int .i64 0) := (blk_cell BK305.out 1).trans rfl; have hcz8_2 : w7.cell? ⟨gb305, 2, none⟩ = some (.int .i64 0) := (blk_cell BK305.out 2).trans rfl; have hfz8_0 := blk_frozen BK305.out 0; have hfz8_1 := blk_frozen BK305.out 1; have hfz8_2 := blk_frozen BK305.out 2))
      go_ret2
      exact ⟨_, by first | rfl | (simp [errW_none, errW_some] <;> rfl) | (simp [*, errW_none, errW_some] <;> rfl), by first | exact Kd.S_nil _ _ _ _ _ | exact Kd.N_nil _ _ _ _ _ | exact Kd.V_nil _ _ _ _ _ | exact Kd.Q_nil _ _ _ _ _ | exact Kd.R_nil _ _ _ _ _, by repeat (first | (with_reducible first | exact HB.out | apply below_alloc | apply pw_below_drewN | apply below_drew1 | refine below_set ?_ GE305.out) | exact HB.out)⟩
    · rw [if_neg c5] at H
      have c5b0 : decide (a1 < 1) = false := decide_eq_false c5
      clear c5
      have H' := Aside0.mk H
      clear H
      go_enter Try.func22, Try.ntmps22
      go_wp2_with (first | ((with_reducible refine gate_callee (f := 24) rfl ?_); refine goesL_ (some 12) rfl rfl Try.func24 (by kernel_rfl) rfl #[.slice A0 l0.length c0] rfl (by (try simp only [List.map_toArray, List.map_cons, List.map_nil]); first | done | rfl | (simp only [List.length_drop, List.length_take]; rfl)) ?_; (with_reducible refine (payrollref39_Of.calls k _ _ l0 t301 t302 t303 t304 _ ?side1 ?side2 A3.out).mono ?_); (case side1 => repeat (first | exact HR0.out | (with_reducible refine Kd.C_alloc ?_ _) | (with_reducible refine Kd.C_drewN ?_ _) | (with_reducible refine Kd.C_drew ?_))); (case side2 => exact HC0.out); rintro e w9 ⟨rfl, hb⟩; refine ⟨_, rfl, ?_⟩; have n0_ := Aside0.mk (below_step (by repeat (first | (with_reducible first | exact HB.out | apply below_alloc | apply pw_below_drewN | apply below_drew1) | exact HB.out)) hb); clear HB; have HB := n0_; clear n0_; (try clear hb); (try clear hb2); (try clear hk); (try clear hi)) | ((with_reducible refine gate_dst (N := 6) rfl ?_); (try (refine gate_guard (by rfl) ?_; dsimp only)); refine box_event ?hg (N := 6) ?hd (cs := #[.int .i64 0, .int .i64 0, .int .i64 0]) (t := 34) ?hr ?_; (case hd => rfl); (case hg => rfl); (case hr => first | (go_simp; done) | (go_simp; rfl)); intro gb305 hg w10 hbox hb; have n0_ := Aside0.mk (below_step (by repeat (first | (with_reducible first | exact HB.out | apply below_alloc | apply pw_below_drewN | apply below_drew1) | exact HB.out)) hb); have n1_ := Aside0.mk (hbox); have n2_ := Aside0.mk ((by rw [hg]; exact (below_size (by repeat (first | (with_reducible first | exact HB.out | apply below_alloc | apply pw_below_drewN | apply below_drew1) | exact HB.out))) : w.heap.size ≤ gb305)); have n3_ := Aside0.mk ((by rw [hg]; exact (below_size (by repeat (first | (with_reducible first | exact HB.out | apply below_alloc | apply pw_below_drewN | apply below_drew1) | exact HB.out))) : w.heap.size ≤ gb305)); clear HB; have HB := n0_; have BK305 := n1_; have GW305 := n2_; have GE305 := n3_; clear n0_ n1_ n2_ n3_; clear hb hbox hg; have hcz11_0 : w10.cell? ⟨gb305, 0, none⟩ = some (.int .i64 0) := (blk_cell BK305.out 0).trans rfl; have hcz11_1 : w10.cell? ⟨gb305, 1, none⟩ = some (.int .i64 0) := (blk_cell BK305.out 1).trans rfl; have hcz11_2 : w10.cell? ⟨gb305, 2, none⟩ = some (.int .i64 0) := (blk_cell BK305.out 2).trans rfl; have hfz11_0 := blk_frozen BK305.out 0; have hfz11_1 := blk_frozen BK305.out 1; have hfz11_2 := blk_frozen BK305.out 2))
      go_loopg [8, 9] k (fun kq v8 v9 w' => ∃ (x8_1 : List (List (S29))) (x9_1 : Int), v9 = .int .i64 x9_1 ∧ Aside0 (payrollref39_Split.l0 kq l0 a1 x8_1 x9_1 = some (r1, r2)) ∧ Aside0 (kq ≤ k) ∧ Aside0 (Kd.S (Kd.slice 29 k29) 25 w' w.heap.size (fun _ => True) v8 x8_1) ∧ Aside0 (w'.heap[gb305]? = some (.cells #[.int .i64 t301, .int .i64 t302, .int .i64 t303] 34 (0, 0))) ∧ Aside0 (Below w.heap.size w w'))
      case atStart => exact ⟨(([] : List (List (S29)))), (0), (by first | rfl | (simp; done) | (simp [*]; done)), H', ⟨Nat.le_refl _⟩, ⟨by first | exact Kd.S_nil _ _ _ _ _ | exact Kd.N_nil _ _ _ _ _ | exact Kd.V_nil _ _ _ _ _ | exact Kd.Q_nil _ _ _ _ _ | exact Kd.R_nil _ _ _ _ _⟩, ⟨by (with_reducible repeat (first | refine blk_drewN ?_ _ | refine blk_drew ?_ | refine blk_alloc ?_ _)); refine blk_put (cs := #[.int .i64 t301, .int .i64 t302, .int .i64 0]) ?_ 2 _ rfl; (with_reducible repeat (first | refine blk_drewN ?_ _ | refine blk_drew ?_ | refine blk_alloc ?_ _)); refine blk_put (cs := #[.int .i64 t301, .int .i64 0, .int .i64 0]) ?_ 1 _ rfl; (with_reducible repeat (first | refine blk_drewN ?_ _ | refine blk_drew ?_ | refine blk_alloc ?_ _)); refine blk_put (cs := #[.int .i64 0, .int .i64 0, .int .i64 0]) ?_ 0 _ rfl; (with_reducible repeat (first | refine blk_drewN ?_ _ | refine blk_drew ?_ | refine blk_alloc ?_ _)); exact BK305.out⟩, ⟨by repeat (first | (with_reducible first | exact HB.out | apply below_alloc | apply pw_below_drewN | apply below_drew1 | refine below_set ?_ GE305.out) | exact HB.out)⟩⟩
      case round =>
        clear H'
        try clear c2
        try clear p2
        try clear c4
        try clear c4b0
        try clear c4b1
        try clear c5
        try clear c5b0
        try clear hcz11_0
        try clear hcz11_1
        try clear hcz11_2
        try clear hcz8_0
        try clear hcz8_1
        try clear hcz8_2
        try clear hfz11_0
        try clear hfz11_1
        try clear hfz11_2
        try clear hfz8_0
        try clear hfz8_1
        try clear hfz8_2
        obtain ⟨x8_1, x9_1, rfl, HA, HK1, HO_8, BK305, HB⟩ := hrel
        cases gk with
        | zero => exact absurd HA.out (by simp [payrollref39_Split.l0])
        | succ k1 =>
          have H := HA.out
          clear HA
          simp only [payrollref39_Split.l0] at H
          by_cases c12 : x9_1 < (l0.length : Int)
          · rw [if_pos c12] at H
            have c12b0 : decide (x9_1 < (l0.length : Int)) = true := decide_eq_true c12
            clear c12
            by_cases c13 : (x8_1.length : Int) = 0
            · rw [if_pos c13] at H
              have c13b0 : ((x8_1.length : Int) == 0) = true := beq_iff_eq.mpr c13
              have c13b1 : ((x8_1.length : Int) != 0) = false := bne_eq_false_iff_eq.mpr c13
              clear c13
              by_cases c14 : x8_1.length < 5864062014805
              · rw [if_pos c14] at H
                have LMc14 := Aside0.mk c14
                clear c14
                obtain ⟨y306, hy306⟩ : ∃ y_ : List (List (S29)), y_ = (x8_1 ++ [[]]) := ⟨_, rfl⟩
                replace H : (if 0 ≤ (wrap64 ((y306.length : Int) - 1)) then (if (wrap64 ((y306.length : Int) - 1)) < (y306.length : Int) then (if 0 ≤ x9_1 then (if (rd_L2 y306 (wrap64 ((y306.length : Int) - 1))).length < 8796093022208 then (payrollref39_Split.l0 k1 l0 a1 (y306.set ((wrap64 ((y306.length : Int) - 1)) : Int).toNat ((rd_L2 y306 (wrap64 ((y306.length : Int) - 1))) ++ [(⟨(rd_T29 l0 x9_1).f0, (rd_T29 l0 x9_1).f1⟩ : S29)])) (wrap64 (x9_1 + 1))) else (none)) else (none)) else (none)) else (none)) = some (r1, r2) := by first | (rw [hy306]; with_reducible exact H) | (have H2_ := (Option.bind_some _ _).symm.trans H; rw [hy306]; with_reducible exact H2_) | (have H2_ := (Option.bind_some _ _).symm.trans H; with_reducible exact H2_) | with_reducible exact H | (rw [hy306]; exact H) | exact H
                have Ny306 := Aside0.mk hy306
                clear hy306
                obtain ⟨ji15, hji15⟩ : ∃ j_ : Int, (wrap64 ((y306.length : Int) - 1)) = j_ := ⟨_, rfl⟩
                replace H : (if 0 ≤ (ji15) then (if (ji15) < (y306.length : Int) then (if 0 ≤ x9_1 then (if (rd_L2 y306 (ji15)).length < 8796093022208 then (payrollref39_Split.l0 k1 l0 a1 (y306.set ((ji15) : Int).toNat ((rd_L2 y306 (ji15)) ++ [(⟨(rd_T29 l0 x9_1).f0, (rd_T29 l0 x9_1).f1⟩ : S29)])) (wrap64 (x9_1 + 1))) else (none)) else (none)) else (none)) else (none)) = some (r1, r2) := by first | (rw [hji15] at H; exact H) | (simp only [hji15] at H ⊢; exact H)
                have hji15w : (IntKind.i64.wrap ((y306.length : Int) - 1)) = ji15 := (i64_w _).trans hji15
                by_cases c16 : 0 ≤ (ji15)
                · rw [if_pos c16] at H
                  have c16b0 : decide (0 ≤ (ji15)) = true := decide_eq_true c16
                  clear c16
                  by_cases c17 : (ji15) < (y306.length : Int)
                  · rw [if_pos c17] at H
                    have c17b0 : decide ((ji15) < (y306.length : Int)) = true := decide_eq_true c17
                    clear c17
                    by_cases c18 : 0 ≤ x9_1
                    · rw [if_pos c18] at H
                      have c18b0 : decide (0 ≤ x9_1) = true := decide_eq_true c18
                      clear c18
                      by_cases c19 : (rd_L2 y306 (ji15)).length < 8796093022208
                      · rw [if_pos c19] at H
                        have LMc19 := Aside0.mk c19
                        clear c19
                        obtain ⟨y311, hy311⟩ : ∃ y_ : List (S29), y_ = ((rd_L2 y306 (ji15)) ++ [(⟨(rd_T29 l0 x9_1).f0, (rd_T29 l0 x9_1).f1⟩ : S29)]) := ⟨_, rfl⟩
                        replace H : (payrollref39_Split.l0 k1 l0 a1 (y306.set ((ji15) : Int).toNat y311) (wrap64 (x9_1 + 1))) = some (r1, r2) := by first | (rw [hy311]; with_reducible exact H) | (have H2_ := (Option.bind_some _ _).symm.trans H; rw [hy311]; with_reducible exact H2_) | (have H2_ := (Option.bind_some _ _).symm.trans H; with_reducible exact H2_) | with_reducible exact H | (rw [hy311]; exact H) | exact H
                        have Ny311 := Aside0.mk hy311
                        clear hy311
                        obtain ⟨y314, hy314⟩ : ∃ y_ : List (List (S29)), y_ = (y306.set ((ji15) : Int).toNat y311) := ⟨_, rfl⟩
                        replace H : (payrollref39_Split.l0 k1 l0 a1 y314 (wrap64 (x9_1 + 1))) = some (r1, r2) := by first | (rw [hy314]; with_reducible exact H) | (have H2_ := (Option.bind_some _ _).symm.trans H; rw [hy314]; with_reducible exact H2_) | (have H2_ := (Option.bind_some _ _).symm.trans H; with_reducible exact H2_) | with_reducible exact H | (rw [hy314]; exact H) | exact H
                        have Ny314 := Aside0.mk hy314
                        clear hy314
                        have H' := Aside0.mk H
                        clear H
                        obtain ⟨Ao21, co21, eo21⟩ := Kd.S_slice HO_8.out
                        subst eo21
                        try go_wp2_with (first | ((with_reducible refine gate_builtin (b := .append) (xs := #[.tmp 40, .tmp 41]) rfl ?_); (try (refine gate_guard (by rfl) ?_; dsimp only)); at_builtin; refine Kd.S_append (Kd.slice 29 k29) (w0 := w) w.heap.size rfl (.tmp 40) (.tmp 41) 45 25 (.slice none 0 0) 24 rfl Try.underlying45 info25 rfl (by decide) (by omega) (.slice Ao21 x8_1.length co21) x8_1 [] [.slice none 0 0] (fun _ => True) (fun _ => False) rfl rfl ?aP (fun _ hk => hk.elim) ?aF ?aO ?aB ?aS ?aL ?_; (case aP => exact ⟨_, rfl, Kd.R_nil _ _ _ _ _⟩); (case aB => exact (by repeat (first | (with_reducible first | exact HB.out | apply below_alloc | apply pw_below_drewN | apply below_drew1 | refine below_set ?_ GE305.out) | exact HB.out))); (case aF => exact (fun _ _ => trivial)); (case aO => exact (by (with_reducible repeat (first | apply Kd.S_alloc | apply Kd.S_drewN | apply Kd.S_drew)); exact Kd.S_mono HO_8.out (fun k_ hk => ⟨trivial, fun e_ => e_⟩))); (case aS => exact (below_size (by repeat (first | (with_reducible first | exact HB.out | apply below_alloc | apply pw_below_drewN | apply below_drew1 | refine below_set ?_ GE305.out) | exact HB.out)))); (case aL => have := LMc14.out; omega); intro v307 w22 ho hb hg hat; rw [← Ny306.out] at ho; have n0_ := Aside0.mk (blk_grown (g := gb305) (o := .cells #[.int .i64 t301, .int .i64 t302, .int .i64 t303] 34 (0, 0)) (by (with_reducible repeat (first | refine blk_drewN ?_ _ | refine blk_drew ?_ | refine blk_alloc ?_ _)); exact BK305.out) hg (Kd.S_ne HO_8.out BK305.out (by decide))); have n1_ := Aside0.mk (hb); have n2_ := Aside0.mk (ho); clear BK305; clear HB; clear HO_8; have BK305 := n0_; have HB := n1_; have HO308 := n2_; clear n0_ n1_ n2_; clear ho hb hg hat))
                        have n0_ := Aside0.mk (Kd.S_drew HO308.out)
                        have n1_ := Aside0.mk (blk_drew BK305.out)
                        have n2_ := Aside0.mk (below_drew1 HB.out)
                        clear HO308
                        clear BK305
                        clear HB
                        have HO308 := n0_
                        have BK305 := n1_
                        have HB := n2_
                        clear n0_ n1_ n2_
                        obtain ⟨Ao24, co24, eo24⟩ := Kd.S_slice HO308.out
                        (first | subst eo24 | (injection eo24 with f1_ f2_ f3_; have f4_ := f1_.symm; have f5_ := f3_.symm; clear f1_ f2_ f3_; subst f4_; subst f5_))
                        have p309 : 0 ≤ ((ji15) : Int) := of_decide_eq_true (by first | (with_reducible assumption) | assumption)
                        have q309 : (ji15) < (y306.length : Int) := of_decide_eq_true (by first | (with_reducible assumption) | assumption)
                        obtain ⟨ad309, A309_0, c309_0, e309, hx309_0, hl309_0, hi309_0⟩ := at_L2 (Kd.S_reads' HO308.out).2.2 (ji15) p309 q309
                        cases e309
                        obtain ⟨ce309, hce309, hMe309, hcc309⟩ := Kd.S_get HO308.out [] (ji15) p309 (by first | exact q309 | exact of_decide_eq_true (by first | (with_reducible assumption) | assumption) | (have e_ := (Kd.S_reads' HO308.out).1; omega))
                        obtain ⟨ve309_0, rfl, ge309_0⟩ := hMe309
                        have hv309_0 := hcc309 0 _ rfl
                        rw [Nat.add_zero, show ((Kd.slice 29 k29)).sz = 1 from rfl, Nat.mul_one] at hv309_0
                        replace hv309_0 := Option.some.inj (hv309_0.symm.trans hx309_0)
                        rw [hv309_0] at ge309_0
                        have HL309_0 := Aside0.mk (show Kd.R k29 29 _ _ _ _ (rd_L2 y306 (ji15)) from ge309_0)
                        clear hv309_0 ge309_0
                        have HX309_0 := Aside0.mk hx309_0
                        clear hcc309 hce309
                        have HR309_0 := Aside0.mk hi309_0
                        have HC309_0 := Aside0.mk hl309_0
                        clear hi309_0 hl309_0
                        replace p309 := eq_true p309
                        replace q309 := eq_true q309
                        have p310 : 0 ≤ (x9_1 : Int) := of_decide_eq_true (by first | (with_reducible assumption) | assumption)
                        have q310 : x9_1 < (l0.length : Int) := of_decide_eq_true (by first | (with_reducible assumption) | assumption)
                        obtain ⟨ad310, e310, hx310_0, hx310_1⟩ := at_T29 HR0.out x9_1 p310 q310
                        have hw310_1 := hx310_1
                        have hw310_0 := hx310_0
                        cases e310
                        replace hx310_0 := (HB.out.cell (World.block_lt_of_cell? w _ hx310_0)).trans hx310_0
                        replace hx310_1 := (HB.out.cell (World.block_lt_of_cell? w _ hx310_1)).trans hx310_1
                        replace p310 := eq_true p310
                        replace q310 := eq_true q310
                        obtain ⟨go25, co25, eo25, gb25, gl25, cl25, HG25⟩ := Kd.S_form HO308.out (by have h_ : ((ji15) : Int) < ((y306.length : Int) : Int) := of_decide_eq_true (by first | (with_reducible assumption) | assumption); have h2_ : 0 ≤ ((ji15) : Int) := (of_decide_eq_true (by first | (with_reducible assumption) | assumption)); omega)
                        (first | cases eo25 | (injection eo25 with ea_ en_ ec_; (first | subst ea_ | (injection ea_ with ea_; subst ea_)); subst ec_; clear en_))
                        have GB25 := Aside0.mk gb25
                        have GG25 := Aside0.mk HG25
                        clear gb25 gl25 HG25
                        (first | simp only [add_plain] at hx309_0 | skip)
                        obtain ⟨oki25, ce25, hcl25, hM25, hcc25, _, _, hH25⟩ := Kd.S_elem HO308.out [] ((ji15) : Int) (of_decide_eq_true (by first | (with_reducible assumption) | assumption)) (by have h_ : ((ji15) : Int) < ((y306.length : Int) : Int) := of_decide_eq_true (by first | (with_reducible assumption) | assumption); first | exact h_ | (have e_ := (Kd.S_reads' HO308.out).1; omega) | simpa using h_)
                        obtain ⟨ve25_0, rfl, ge25_0⟩ := hM25
                        have hv25 := hcc25 0 _ rfl
                        have hX25 := HX309_0.out
                        (try simp only [add_plain] at hX25)
                        (try simp only [Nat.add_zero] at hv25)
                        (try rw [show ((Kd.slice 29 k29)).sz = 1 from rfl, Nat.mul_one] at hv25)
                        replace hv25 := Option.some.inj (hv25.symm.trans hX25)
                        subst hv25
                        clear hX25 hcc25 hcl25
                        have UU25 := Aside0.mk (show Kd.R k29 29 _ w.heap.size oki25 (.slice A309_0 (rd_L2 y306 (ji15)).length c309_0) (rd_L2 y306 (ji15)) from ge25_0)
                        have HH25 := Aside0.mk hH25
                        have HN25 := Aside0.mk (Kd.S_reads' HO308.out).1
                        clear hH25 ge25_0
                        refine start_ (n := 18) (S := fun w' => w'.cell? ⟨go25, ((ji15)).toNat, none⟩ = some (.slice A309_0 (rd_L2 y306 (ji15)).length c309_0) ∧ w'.cell? (ad310.add ((x9_1).toNat * 2)) = some (.int .i64 ((rd_T29 l0 x9_1).f0)) ∧ w'.cell? ⟨(ad310.add ((x9_1).toNat * 2)).block, (ad310.add ((x9_1).toNat * 2)).off + 1, none⟩ = some (.int .i64 ((rd_T29 l0 x9_1).f1))) (ds := [17]) #[false, false, false, false, false, false, false, false, false, false, false, false, false, false, false, false, false, false] (by kernel_rfl) rfl rfl ⟨hx309_0, ((HB.out.cell (World.block_lt_of_cell? w _ hw310_0)).trans hw310_0), ((HB.out.cell (World.block_lt_of_cell? w _ hw310_1)).trans hw310_1)⟩ (fun hHeld => ?_); refine with_tabW payrollref39_Split.tab12 payrollref39_Split.bits12 (fun HT_ HW_ => ?_)
                        generalize w22.drew = w23 at HO308 BK305 HB GG25 HH25 HL309_0 HR309_0 HX309_0 UU25 hx309_0 hx310_0 hx310_1 hHeld ⊢
                        refine pure_ (i := 0) (N := some 43) (v := ?_) (a' := ?_) #[true, false, false, false, false, false, false, false, false, false, false, false, false, false, false, false, false, false] rfl rfl (any_of HT_.out (by kernel_rfl)) (fun _ _ _ h => h) (Or.inl ⟨by rfl, ?_⟩) ?_ ?_
                        rotate_left
                        · intro w'
                          go_simp
                          with_reducible rfl
                        rotate_left
                        · simp only [Act.put, List.setIfInBounds_toArray, List.set_cons_zero, List.set_cons_succ, i64_w, i32_w]
                          rfl
                        refine pure_ (i := 1) (N := some 44) (v := ?_) (a' := ?_) #[true, true, false, false, false, false, false, false, false, false, false, false, false, false, false, false, false, false] rfl rfl (any_of HT_.out (by kernel_rfl)) (fun _ _ _ h => h) (Or.inl ⟨by rfl, ?_⟩) ?_ ?_
                        rotate_left
                        · intro w'
                          go_simp
                          with_reducible rfl
                        rotate_left
                        · simp only [Act.put, List.setIfInBounds_toArray, List.set_cons_zero, List.set_cons_succ, i64_w, i32_w]
                          rfl
                        refine pure_ (i := 2) (N := some 45) (v := ?_) (a' := ?_) #[true, true, true, false, false, false, false, false, false, false, false, false, false, false, false, false, false, false] rfl rfl (any_of HT_.out (by kernel_rfl)) (fun _ _ _ h => h) (Or.inl ⟨by rfl, ?_⟩) ?_ ?_
                        rotate_left
                        · intro w'
                          go_simp
                          with_reducible rfl
                        rotate_left
                        · simp only [Act.put, List.setIfInBounds_toArray, List.set_cons_zero, List.set_cons_succ, i64_w, i32_w]
                          rfl
                        refine pure_ (i := 3) (N := some 46) (v := ?_) (a' := ?_) #[true, true, true, true, false, false, false, false, false, false, false, false, false, false, false, false, false, false] rfl rfl (any_of HT_.out (by kernel_rfl)) (fun _ _ _ h => h) (Or.inl ⟨by rfl, ?_⟩) ?_ ?_
                        rotate_left
                        · intro w'
                          go_simp
                          with_reducible rfl
                        rotate_left
                        · simp only [Act.put, List.setIfInBounds_toArray, List.set_cons_zero, List.set_cons_succ, i64_w, i32_w]
                          rfl
                        refine pure_ (i := 4) (N := some 47) (v := ?_) (a' := ?_) #[true, true, true, true, true, false, false, false, false, false, false, false, false, false, false, false, false, false] rfl rfl (any_of HT_.out (by kernel_rfl)) (fun _ _ _ h => h) (Or.inl ⟨by rfl, ?_⟩) ?_ ?_
                        rotate_left
                        · intro w'
                          go_simp
                          with_reducible rfl
                        rotate_left
                        · simp only [Act.put, List.setIfInBounds_toArray, List.set_cons_zero, List.set_cons_succ, i64_w, i32_w]
                          rfl
                        refine pure_ (i := 5) (N := some 48) (v := ?_) (a' := ?_) #[true, true, true, true, true, true, false, false, false, false, false, false, false, false, false, false, false, false] rfl rfl (any_of HT_.out (by kernel_rfl)) (fun _ _ _ h => h) (Or.inl ⟨by rfl, ?_⟩) ?_ ?_
                        rotate_left
                        · intro w'
                          go_simp
                          with_reducible rfl
                        rotate_left
                        · simp only [Act.put, List.setIfInBounds_toArray, List.set_cons_zero, List.set_cons_succ, i64_w, i32_w]
                          rfl
                        refine pure_ (i := 6) (N := some 49) (v := ?_) (a' := ?_) #[true, true, true, true, true, true, true, false, false, false, false, false, false, false, false, false, false, false] rfl rfl (any_of HT_.out (by kernel_rfl)) (fun _ _ _ h => h) (Or.inl ⟨by rfl, ?_⟩) ?_ ?_
                        rotate_left
                        · intro w'
                          go_simp
                          with_reducible rfl
                        rotate_left
                        · simp only [Act.put, List.setIfInBounds_toArray, List.set_cons_zero, List.set_cons_succ, i64_w, i32_w]
                          rfl
                        refine pure_ (i := 7) (N := some 50) (v := ?_) (a' := ?_) #[true, true, true, true, true, true, true, true, false, false, false, false, false, false, false, false, false, false] rfl rfl (any_of HT_.out (by kernel_rfl)) (fun _ _ _ h => h) (Or.inl ⟨by rfl, ?_⟩) ?_ ?_
                        rotate_left
                        · intro w'
                          go_simp
                          with_reducible rfl
                        rotate_left
                        · simp only [Act.put, List.setIfInBounds_toArray, List.set_cons_zero, List.set_cons_succ, i64_w, i32_w]
                          rfl
                        refine pure_ (i := 8) (N := some 51) (v := ?_) (a' := ?_) #[true, true, true, true, true, true, true, true, true, false, false, false, false, false, false, false, false, false] rfl rfl (any_of HT_.out (by kernel_rfl)) (fun _ _ _ h => h) (Or.inl ⟨by rfl, ?_⟩) ?_ ?_
                        rotate_left
                        · intro w'
                          go_simp
                          with_reducible rfl
                        rotate_left
                        · simp only [Act.put, List.setIfInBounds_toArray, List.set_cons_zero, List.set_cons_succ, i64_w, i32_w]
                          rfl
                        refine pure_ (i := 10) (N := some 53) (v := ?_) (a' := ?_) #[true, true, true, true, true, true, true, true, true, false, true, false, false, false, false, false, false, false] rfl rfl (any_of HT_.out (by kernel_rfl)) (fun _ _ _ h => h) (Or.inl ⟨by rfl, ?_⟩) ?_ ?_
                        rotate_left
                        · intro w'
                          go_simp
                          with_reducible rfl
                        rotate_left
                        · simp only [Act.put, List.setIfInBounds_toArray, List.set_cons_zero, List.set_cons_succ, i64_w, i32_w]
                          rfl
                        refine pure_ (i := 11) (N := some 54) (v := ?_) (a' := ?_) #[true, true, true, true, true, true, true, true, true, false, true, true, false, false, false, false, false, false] rfl rfl (any_of HT_.out (by kernel_rfl)) (fun _ _ _ h => h) (Or.inl ⟨by rfl, ?_⟩) ?_ ?_
                        rotate_left
                        · intro w'
                          go_simp
                          with_reducible rfl
                        rotate_left
                        · simp only [Act.put, List.setIfInBounds_toArray, List.set_cons_zero, List.set_cons_succ, i64_w, i32_w]
                          rfl
                        refine pure_ (i := 12) (N := some 55) (v := ?_) (a' := ?_) #[true, true, true, true, true, true, true, true, true, false, true, true, true, false, false, false, false, false] rfl rfl (any_of HT_.out (by kernel_rfl)) (fun _ _ _ h => h) (Or.inl ⟨by rfl, ?_⟩) ?_ ?_
                        rotate_left
                        · intro w'
                          go_simp
                          with_reducible rfl
                        rotate_left
                        · simp only [Act.put, List.setIfInBounds_toArray, List.set_cons_zero, List.set_cons_succ, i64_w, i32_w]
                          rfl
                        refine take_ (i := 9) (N := some 52) (v := ?_) (a' := ?_) #[true, true, true, true, true, true, true, true, true, true, true, true, true, false, false, false, false, false] rfl rfl (take_ofW HT_.out HW_.out (by kernel_rfl)) (fun _ _ _ h => h) (Or.inl ⟨by rfl, ?_⟩) hHeld ?_ ?_
                        rotate_left
                        · rintro w' ⟨s0, s1, s2⟩
                          go_simp
                          with_reducible rfl
                        rotate_left
                        · simp only [Act.put, List.setIfInBounds_toArray, List.set_cons_zero, List.set_cons_succ, i64_w, i32_w]
                          rfl
                        refine take_ (i := 13) (N := some 56) (v := ?_) (a' := ?_) #[true, true, true, true, true, true, true, true, true, true, true, true, true, true, false, false, false, false] rfl rfl (take_ofW HT_.out HW_.out (by kernel_rfl)) (fun _ _ _ h => h) (Or.inl ⟨by rfl, ?_⟩) hHeld ?_ ?_
                        rotate_left
                        · rintro w' ⟨s0, s1, s2⟩
                          go_simp
                          with_reducible rfl
                        rotate_left
                        · simp only [Act.put, List.setIfInBounds_toArray, List.set_cons_zero, List.set_cons_succ, i64_w, i32_w]
                          rfl
                        refine one_ (i := 14) (N := some 57) #[true, true, true, true, true, true, true, true, true, true, true, true, true, true, true, false, false, false] rfl rfl (one_of HT_.out (by kernel_rfl)) (by decide) (fun K hK => ?_)
                        refine value_ (w1 := ?_) (v := ?_) (by rfl) rfl ?_ ?_
                        rotate_left 2
                        · go_simp
                          constructor
                          · rfl
                          · rfl
                        refine hK.out _ _ ⟨(World.cell?_alloc_lt _ _ _ (World.block_lt_of_cell? _ _ (hHeld.1))).trans (hHeld.1), (World.cell?_alloc_lt _ _ _ (World.block_lt_of_cell? _ _ (((HB.out.cell (World.block_lt_of_cell? w _ hw310_0)).trans hw310_0)))).trans (((HB.out.cell (World.block_lt_of_cell? w _ hw310_0)).trans hw310_0)), (World.cell?_alloc_lt _ _ _ (World.block_lt_of_cell? _ _ (((HB.out.cell (World.block_lt_of_cell? w _ hw310_1)).trans hw310_1)))).trans (((HB.out.cell (World.block_lt_of_cell? w _ hw310_1)).trans hw310_1))⟩ (fun hHeld => ?_)
                        clear hK K
                        refine norm_ (a' := ?_) ?_ ?_
                        rotate_left
                        · show Act.put _ (some 57) _ = _
                          simp only [Act.put, List.setIfInBounds_toArray, List.set_cons_zero, List.set_cons_succ, i64_w, i32_w]
                          rfl
                        refine one_ (i := 15) (N := some 58) #[true, true, true, true, true, true, true, true, true, true, true, true, true, true, true, true, false, false] rfl rfl (one_of HT_.out (by kernel_rfl)) (by decide) (fun K hK => ?_)
                        refine Kd.R_append_step k29 (w0 := w) w.heap.size (by rfl) (.tmp 52) (.tmp 57) 25 29 (.agg #[(.int .i64 0), (.int .i64 0)]) 16 rfl Try.underlying25 info29 rfl (by decide) (by omega) (.slice A309_0 (rd_L2 y306 (ji15)).length c309_0) (rd_L2 y306 (ji15)) (⟨(rd_T29 l0 x9_1).f0, (rd_T29 l0 x9_1).f1⟩ : S29) [.int .i64 ((rd_T29 l0 x9_1).f0), .int .i64 ((rd_T29 l0 x9_1).f1)] (fun k_ => oki25 k_ ∨ ((fun _ => True)) k_ ∧ w23.heap.size ≤ k_) (fun _ => False) rfl rfl ?aP (fun _ hk => hk.elim) ?aF ?aO ?aB ?aS ?aL ?_
                        (case aP => exact k29_mkM _ _ _ (⟨(rd_T29 l0 x9_1).f0, (rd_T29 l0 x9_1).f1⟩ : S29))
                        (case aB => exact (by repeat (first | (with_reducible first | exact HB.out | apply below_alloc | apply pw_below_drewN | apply below_drew1 | refine below_set ?_ GE305.out) | exact HB.out)))
                        (case aF => exact (fun k_ hk => .inr ⟨trivial, hk⟩))
                        (case aO => exact (by (with_reducible repeat (first | apply Kd.R_alloc | apply Kd.R_drewN | apply Kd.R_drew)); exact Kd.R_mono UU25.out (fun _ hk => .inl hk)))
                        (case aS => exact (below_size (by repeat (first | (with_reducible first | exact HB.out | apply below_alloc | apply pw_below_drewN | apply below_drew1 | refine below_set ?_ GE305.out) | exact HB.out))))
                        (case aL => have := LMc19.out; omega)
                        intro v312 w26 ho hb hg hat
                        (first | have HS0_ := Go.Proofs.YtdmcffabkeodpaaW.PrintWords.cell_grown hg (hHeld.1) (by first | (rw [add_block]; exact (fun e_ => ((HL309_0.out.1 _ e_.symm).2) rfl)) | (show some (Addr.add _ _).block ≠ _; rw [add_block]; exact (fun e_ => ((HL309_0.out.1 _ e_.symm).2) rfl)) | exact (fun e_ => ((HL309_0.out.1 _ e_.symm).2) rfl)) | have HS0_ := Go.Proofs.YtdmcffabkeodpaaW.PrintWords.cell_grown hg (cell_unalloc (hHeld.1) (by first | (rw [add_block]; exact Kd.S_lt HO308.out _ rfl) | (show (Addr.add _ _).block < _; rw [add_block]; exact Kd.S_lt HO308.out _ rfl) | exact Kd.S_lt HO308.out _ rfl)) (by first | (rw [add_block]; exact (fun e_ => ((HL309_0.out.1 _ e_.symm).2) rfl)) | (show some (Addr.add _ _).block ≠ _; rw [add_block]; exact (fun e_ => ((HL309_0.out.1 _ e_.symm).2) rfl)) | exact (fun e_ => ((HL309_0.out.1 _ e_.symm).2) rfl)))
                        rw [← Ny311.out] at ho
                        have n0_ := Aside0.mk (blk_grown (g := gb305) (o := .cells #[.int .i64 t301, .int .i64 t302, .int .i64 t303] 34 (0, 0)) (by (with_reducible repeat (first | refine blk_drewN ?_ _ | refine blk_drew ?_ | refine blk_alloc ?_ _)); exact BK305.out) hg (Kd.R_ne HL309_0.out BK305.out (by decide)))
                        have n1_ := Aside0.mk (hb)
                        have n2_ := Aside0.mk (Kd.H_grown (Kd.H_widen (by repeat (first | exact HH25.out | refine Kd.H_alloc ?_ _ | refine Kd.H_drewN ?_ _ | refine Kd.H_drew ?_))) hg (fun k_ e_ => .inl (UU25.out.1 k_ e_)))
                        have n3_ := Aside0.mk (ho)
                        clear BK305
                        clear HB
                        clear HH25
                        clear HO308
                        clear UU25
                        clear HL309_0
                        have BK305 := n0_
                        have HB := n1_
                        have HH25 := n2_
                        have HO313 := n3_
                        clear n0_ n1_ n2_ n3_
                        clear ho hb hg hat
                        have p20 : 0 ≤ ((ji15) : Int) := of_decide_eq_true (by first | (with_reducible assumption) | assumption)
                        have q20 : ((ji15) : Int) < ((y306.length : Int) : Int) := of_decide_eq_true (by first | (with_reducible assumption) | assumption)
                        replace p20 := eq_true p20
                        replace q20 := eq_true q20
                        obtain ⟨Ao29, co29, eo29⟩ := Kd.R_slice HO313.out
                        (first | subst eo29 | (injection eo29 with f1_ f2_ f3_; have f4_ := f1_.symm; have f5_ := f3_.symm; clear f1_ f2_ f3_; subst f4_; subst f5_))
                        obtain ⟨_, _, hraw27, _, _, hcc27, _⟩ := Kd.H_raw HH25.out (of_decide_eq_true (by first | (with_reducible assumption) | assumption)) (by have h_ : ((ji15) : Int) < ((y306.length : Int) : Int) := of_decide_eq_true (by first | (with_reducible assumption) | assumption); first | exact h_ | (have e_ := (HN25.out); omega) | simpa using h_)
                        obtain ⟨_, hfr27⟩ := Kd.H_at HH25.out (of_decide_eq_true (by first | (with_reducible assumption) | assumption)) (by have h_ : ((ji15) : Int) < ((y306.length : Int) : Int) := of_decide_eq_true (by first | (with_reducible assumption) | assumption); first | exact h_ | (have e_ := (HN25.out); omega) | simpa using h_)
                        have hx27_0 := hcc27 0 _ rfl
                        have hf27_0 := hfr27 0
                        (try simp only [Nat.add_zero] at hx27_0 hf27_0)
                        (try rw [show ((Kd.slice 29 k29)).sz = 1 from rfl, Nat.mul_one] at hx27_0)
                        (try rw [show ((Kd.slice 29 k29)).sz = 1 from rfl, Nat.mul_one] at hf27_0)
                        have HP27 := Kd.S_seg0 HH25.out (of_decide_eq_true (by first | (with_reducible assumption) | assumption)) (by have h_ : ((ji15) : Int) < ((y306.length : Int) : Int) := of_decide_eq_true (by first | (with_reducible assumption) | assumption); first | exact h_ | (have e_ := (HN25.out); omega) | simpa using h_) (seg := [.slice Ao29 y311.length co29]) (j := 0) (show 1 ≤ 1 from by decide) (x' := y311) (Kd.M_row HO313.out) (fun _ hk => hk)
                        (try simp only [show ((Kd.slice 29 k29)).sz = 1 from rfl, Nat.mul_one, Nat.add_zero] at HP27)
                        clear hcc27 hfr27
                        have HNB305_go25 := Aside0.mk (show gb305 ≠ go25 from by have h_ := Kd.R_ne hraw27 BK305.out (by decide); intro e_; exact h_ (by rw [e_]; rfl))
                        have HS27 := HP27.1
                        rw [← Ny314.out] at HS27
                        have HQ27 := Aside0.mk HS27
                        obtain ⟨_, hgg27⟩ := Kd.R_typed hraw27 go25 rfl
                        have GG27_ := Aside0.mk hgg27
                        clear HP27 HS27 hgg27
                        refine hK.out _ _ ⟨HS0_, ((HB.out.cell (World.block_lt_of_cell? w _ hw310_0)).trans hw310_0), ((HB.out.cell (World.block_lt_of_cell? w _ hw310_1)).trans hw310_1)⟩ (fun hHeld => ?_)
                        clear hK K
                        refine norm_ (a' := ?_) ?_ ?_
                        rotate_left
                        · show Act.put _ (some 58) _ = _
                          simp only [Act.put, List.setIfInBounds_toArray, List.set_cons_zero, List.set_cons_succ, i64_w, i32_w]
                          rfl
                        refine pure_ (i := 16) (N := some 59) (v := ?_) (a' := ?_) #[true, true, true, true, true, true, true, true, true, true, true, true, true, true, true, true, true, false] rfl rfl (any_of HT_.out (by kernel_rfl)) (fun _ _ _ h => h) (Or.inl ⟨by rfl, ?_⟩) ?_ ?_
                        rotate_left
                        · intro w'
                          go_simp
                          with_reducible rfl
                        rotate_left
                        · simp only [Act.put, List.setIfInBounds_toArray, List.set_cons_zero, List.set_cons_succ, i64_w, i32_w]
                          rfl
                        refine last_ (i := 17) (N := none) #[true, true, true, true, true, true, true, true, true, true, true, true, true, true, true, true, true, true] rfl rfl (one_of HT_.out (by kernel_rfl)) (by decide) (fun K hK => ?_)
                        refine skip_ (w1 := ?_) (by rfl) rfl ?_ ?_
                        rotate_left
                        · go_simp
                          rfl
                        refine hK.out _ _ ?_
                        clear hK K
                        refine done_ (done_of HT_.out (by kernel_rfl)) ?_
                        try go_wp2
                        go_roundg k1
                        case measure => have := HK1.out; omega
                        case rel => exact ⟨(y314), (wrap64 (x9_1 + 1)), (by first | rfl | (simp; done) | (simp [*]; done)), H', ⟨by have := HK1.out; omega⟩, ⟨by (with_reducible repeat (first | apply Kd.S_alloc | apply Kd.S_drewN | apply Kd.S_drew)); exact HQ27.out⟩, ⟨by (with_reducible repeat (first | refine blk_drewN ?_ _ | refine blk_drew ?_ | refine blk_alloc ?_ _)); refine blk_far ?_ HNB305_go25.out _; (with_reducible repeat (first | refine blk_drewN ?_ _ | refine blk_drew ?_ | refine blk_alloc ?_ _)); exact BK305.out⟩, ⟨by repeat (first | (with_reducible first | exact HB.out | apply below_alloc | apply pw_below_drewN | apply below_drew1 | refine below_set ?_ GB25.out | refine below_set ?_ GE305.out) | exact HB.out)⟩⟩
                      · rw [if_neg c19] at H
                        exact absurd H (by simp)
                    · rw [if_neg c18] at H
                      exact absurd H (by simp)
                  · rw [if_neg c17] at H
                    exact absurd H (by simp)
                · rw [if_neg c16] at H
                  exact absurd H (by simp)
              · rw [if_neg c14] at H
                exact absurd H (by simp)
            · rw [if_neg c13] at H
              have c13b0 : ((x8_1.length : Int) == 0) = false := beq_eq_false_iff_ne.mpr c13
              have c13b1 : ((x8_1.length : Int) != 0) = true := bne_iff_ne.mpr c13
              have c13b2 : ¬ (x8_1 = []) := fun h_ => c13 (by rw [h_]; rfl)
              obtain ⟨ji30, hji30⟩ : ∃ j_ : Int, (wrap64 ((x8_1.length : Int) - 1)) = j_ := ⟨_, rfl⟩
              replace H : (if 0 ≤ (ji30) then (if (ji30) < (x8_1.length : Int) then (if ((rd_L2 x8_1 (ji30)).length : Int) = a1 then (if x8_1.length < 5864062014805 then ((some (x8_1 ++ [[]] : List (List (S29)))).bind fun y316 => (if 0 ≤ (wrap64 ((y316.length : Int) - 1)) then (if (wrap64 ((y316.length : Int) - 1)) < (y316.length : Int) then (if 0 ≤ x9_1 then (if (rd_L2 y316 (wrap64 ((y316.length : Int) - 1))).length < 8796093022208 then (payrollref39_Split.l0 k1 l0 a1 (y316.set ((wrap64 ((y316.length : Int) - 1)) : Int).toNat ((rd_L2 y316 (wrap64 ((y316.length : Int) - 1))) ++ [(⟨(rd_T29 l0 x9_1).f0, (rd_T29 l0 x9_1).f1⟩ : S29)])) (wrap64 (x9_1 + 1))) else (none)) else (none)) else (none)) else (none))) else (none)) else (if 0 ≤ x9_1 then (if (rd_L2 x8_1 (ji30)).length < 8796093022208 then (payrollref39_Split.l0 k1 l0 a1 (x8_1.set ((ji30) : Int).toNat ((rd_L2 x8_1 (ji30)) ++ [(⟨(rd_T29 l0 x9_1).f0, (rd_T29 l0 x9_1).f1⟩ : S29)])) (wrap64 (x9_1 + 1))) else (none)) else (none))) else (none)) else (none)) = some (r1, r2) := by first | (rw [hji30] at H; exact H) | (simp only [hji30] at H ⊢; exact H)
              have hji30w : (IntKind.i64.wrap ((x8_1.length : Int) - 1)) = ji30 := (i64_w _).trans hji30
              by_cases c31 : 0 ≤ (ji30)
              · rw [if_pos c31] at H
                have c31b0 : decide (0 ≤ (ji30)) = true := decide_eq_true c31
                clear c31
                by_cases c32 : (ji30) < (x8_1.length : Int)
                · rw [if_pos c32] at H
                  have c32b0 : decide ((ji30) < (x8_1.length : Int)) = true := decide_eq_true c32
                  clear c32
                  by_cases c33 : ((rd_L2 x8_1 (ji30)).length : Int) = a1
                  · rw [if_pos c33] at H
                    have c33b0 : (((rd_L2 x8_1 (ji30)).length : Int) == a1) = true := beq_iff_eq.mpr c33
                    have c33b1 : (((rd_L2 x8_1 (ji30)).length : Int) != a1) = false := bne_eq_false_iff_eq.mpr c33
                    clear c33
                    by_cases c34 : x8_1.length < 5864062014805
                    · rw [if_pos c34] at H
                      have LMc34 := Aside0.mk c34
                      clear c34
                      obtain ⟨y316, hy316⟩ : ∃ y_ : List (List (S29)), y_ = (x8_1 ++ [[]]) := ⟨_, rfl⟩
                      replace H : (if 0 ≤ (wrap64 ((y316.length : Int) - 1)) then (if (wrap64 ((y316.length : Int) - 1)) < (y316.length : Int) then (if 0 ≤ x9_1 then (if (rd_L2 y316 (wrap64 ((y316.length : Int) - 1))).length < 8796093022208 then (payrollref39_Split.l0 k1 l0 a1 (y316.set ((wrap64 ((y316.length : Int) - 1)) : Int).toNat ((rd_L2 y316 (wrap64 ((y316.length : Int) - 1))) ++ [(⟨(rd_T29 l0 x9_1).f0, (rd_T29 l0 x9_1).f1⟩ : S29)])) (wrap64 (x9_1 + 1))) else (none)) else (none)) else (none)) else (none)) = some (r1, r2) := by first | (rw [hy316]; with_reducible exact H) | (have H2_ := (Option.bind_some _ _).symm.trans H; rw [hy316]; with_reducible exact H2_) | (have H2_ := (Option.bind_some _ _).symm.trans H; with_reducible exact H2_) | with_reducible exact H | (rw [hy316]; exact H) | exact H
                      have Ny316 := Aside0.mk hy316
                      clear hy316
                      obtain ⟨ji35, hji35⟩ : ∃ j_ : Int, (wrap64 ((y316.length : Int) - 1)) = j_ := ⟨_, rfl⟩
                      replace H : (if 0 ≤ (ji35) then (if (ji35) < (y316.length : Int) then (if 0 ≤ x9_1 then (if (rd_L2 y316 (ji35)).length < 8796093022208 then (payrollref39_Split.l0 k1 l0 a1 (y316.set ((ji35) : Int).toNat ((rd_L2 y316 (ji35)) ++ [(⟨(rd_T29 l0 x9_1).f0, (rd_T29 l0 x9_1).f1⟩ : S29)])) (wrap64 (x9_1 + 1))) else (none)) else (none)) else (none)) else (none)) = some (r1, r2) := by first | (rw [hji35] at H; exact H) | (simp only [hji35] at H ⊢; exact H)
                      have hji35w : (IntKind.i64.wrap ((y316.length : Int) - 1)) = ji35 := (i64_w _).trans hji35
                      by_cases c36 : 0 ≤ (ji35)
                      · rw [if_pos c36] at H
                        have c36b0 : decide (0 ≤ (ji35)) = true := decide_eq_true c36
                        clear c36
                        by_cases c37 : (ji35) < (y316.length : Int)
                        · rw [if_pos c37] at H
                          have c37b0 : decide ((ji35) < (y316.length : Int)) = true := decide_eq_true c37
                          clear c37
                          by_cases c38 : 0 ≤ x9_1
                          · rw [if_pos c38] at H
                            have c38b0 : decide (0 ≤ x9_1) = true := decide_eq_true c38
                            clear c38
                            by_cases c39 : (rd_L2 y316 (ji35)).length < 8796093022208
                            · rw [if_pos c39] at H
                              have LMc39 := Aside0.mk c39
                              clear c39
                              obtain ⟨y321, hy321⟩ : ∃ y_ : List (S29), y_ = ((rd_L2 y316 (ji35)) ++ [(⟨(rd_T29 l0 x9_1).f0, (rd_T29 l0 x9_1).f1⟩ : S29)]) := ⟨_, rfl⟩
                              replace H : (payrollref39_Split.l0 k1 l0 a1 (y316.set ((ji35) : Int).toNat y321) (wrap64 (x9_1 + 1))) = some (r1, r2) := by first | (rw [hy321]; with_reducible exact H) | (have H2_ := (Option.bind_some _ _).symm.trans H; rw [hy321]; with_reducible exact H2_) | (have H2_ := (Option.bind_some _ _).symm.trans H; with_reducible exact H2_) | with_reducible exact H | (rw [hy321]; exact H) | exact H
                              have Ny321 := Aside0.mk hy321
                              clear hy321
                              obtain ⟨y324, hy324⟩ : ∃ y_ : List (List (S29)), y_ = (y316.set ((ji35) : Int).toNat y321) := ⟨_, rfl⟩
                              replace H : (payrollref39_Split.l0 k1 l0 a1 y324 (wrap64 (x9_1 + 1))) = some (r1, r2) := by first | (rw [hy324]; with_reducible exact H) | (have H2_ := (Option.bind_some _ _).symm.trans H; rw [hy324]; with_reducible exact H2_) | (have H2_ := (Option.bind_some _ _).symm.trans H; with_reducible exact H2_) | with_reducible exact H | (rw [hy324]; exact H) | exact H
                              have Ny324 := Aside0.mk hy324
                              clear hy324
                              have H' := Aside0.mk H
                              clear H
                              obtain ⟨Ao41, co41, eo41⟩ := Kd.S_slice HO_8.out
                              subst eo41
                              have p315 : 0 ≤ ((ji30) : Int) := of_decide_eq_true (by first | (with_reducible assumption) | assumption)
                              have q315 : (ji30) < (x8_1.length : Int) := of_decide_eq_true (by first | (with_reducible assumption) | assumption)
                              obtain ⟨ad315, A315_0, c315_0, e315, hx315_0, hl315_0, hi315_0⟩ := at_L2 (Kd.S_reads' HO_8.out).2.2 (ji30) p315 q315
                              cases e315
                              obtain ⟨ce315, hce315, hMe315, hcc315⟩ := Kd.S_get HO_8.out [] (ji30) p315 (by first | exact q315 | exact of_decide_eq_true (by first | (with_reducible assumption) | assumption) | (have e_ := (Kd.S_reads' HO_8.out).1; omega))
                              obtain ⟨ve315_0, rfl, ge315_0⟩ := hMe315
                              have hv315_0 := hcc315 0 _ rfl
                              rw [Nat.add_zero, show ((Kd.slice 29 k29)).sz = 1 from rfl, Nat.mul_one] at hv315_0
                              replace hv315_0 := Option.some.inj (hv315_0.symm.trans hx315_0)
                              rw [hv315_0] at ge315_0
                              have HL315_0 := Aside0.mk (show Kd.R k29 29 _ _ _ _ (rd_L2 x8_1 (ji30)) from ge315_0)
                              clear hv315_0 ge315_0
                              have HX315_0 := Aside0.mk hx315_0
                              clear hcc315 hce315
                              have HR315_0 := Aside0.mk hi315_0
                              have HC315_0 := Aside0.mk hl315_0
                              clear hi315_0 hl315_0
                              replace p315 := eq_true p315
                              replace q315 := eq_true q315
                              try go_wp2_with (first | ((with_reducible refine gate_builtin (b := .append) (xs := #[.tmp 40, .tmp 41]) rfl ?_); (try (refine gate_guard (by rfl) ?_; dsimp only)); at_builtin; refine Kd.S_append (Kd.slice 29 k29) (w0 := w) w.heap.size rfl (.tmp 40) (.tmp 41) 45 25 (.slice none 0 0) 24 rfl Try.underlying45 info25 rfl (by decide) (by omega) (.slice (some ad315) x8_1.length co41) x8_1 [] [.slice none 0 0] (fun _ => True) (fun _ => False) rfl rfl ?aP (fun _ hk => hk.elim) ?aF ?aO ?aB ?aS ?aL ?_; (case aP => exact ⟨_, rfl, Kd.R_nil _ _ _ _ _⟩); (case aB => exact (by repeat (first | (with_reducible first | exact HB.out | apply below_alloc | apply pw_below_drewN | apply below_drew1 | refine below_set ?_ GE305.out) | exact HB.out))); (case aF => exact (fun _ _ => trivial)); (case aO => exact (by (with_reducible repeat (first | apply Kd.S_alloc | apply Kd.S_drewN | apply Kd.S_drew)); exact Kd.S_mono HO_8.out (fun k_ hk => ⟨trivial, fun e_ => e_⟩))); (case aS => exact (below_size (by repeat (first | (with_reducible first | exact HB.out | apply below_alloc | apply pw_below_drewN | apply below_drew1 | refine below_set ?_ GE305.out) | exact HB.out)))); (case aL => have := LMc34.out; omega); intro v317 w42 ho hb hg hat; rw [← Ny316.out] at ho; have n0_ := Aside0.mk (blk_grown (g := gb305) (o := .cells #[.int .i64 t301, .int .i64 t302, .int .i64 t303] 34 (0, 0)) (by (with_reducible repeat (first | refine blk_drewN ?_ _ | refine blk_drew ?_ | refine blk_alloc ?_ _)); exact BK305.out) hg (Kd.S_ne HO_8.out BK305.out (by decide))); have n1_ := Aside0.mk (Kd.R_after (ok := (fun _ => True)) (by (with_reducible repeat (first | apply Kd.R_alloc | apply Kd.R_drewN | apply Kd.R_drew)); exact HL315_0.out) hg hat); have n2_ := Aside0.mk (hb); have n3_ := Aside0.mk (ho); clear BK305; clear HL315_0; clear HB; clear HO_8; have BK305 := n0_; have HL315_0 := n1_; have HB := n2_; have HO318 := n3_; clear n0_ n1_ n2_ n3_; clear ho hb hg hat))
                              have n0_ := Aside0.mk (Kd.R_drew HL315_0.out)
                              have n1_ := Aside0.mk (Kd.S_drew HO318.out)
                              have n2_ := Aside0.mk (blk_drew BK305.out)
                              have n3_ := Aside0.mk (below_drew1 HB.out)
                              clear HL315_0
                              clear HO318
                              clear BK305
                              clear HB
                              have HL315_0 := n0_
                              have HO318 := n1_
                              have BK305 := n2_
                              have HB := n3_
                              clear n0_ n1_ n2_ n3_
                              obtain ⟨Ao44, co44, eo44⟩ := Kd.S_slice HO318.out
                              (first | subst eo44 | (injection eo44 with f1_ f2_ f3_; have f4_ := f1_.symm; have f5_ := f3_.symm; clear f1_ f2_ f3_; subst f4_; subst f5_))
                              have p319 : 0 ≤ ((ji35) : Int) := of_decide_eq_true (by first | (with_reducible assumption) | assumption)
                              have q319 : (ji35) < (y316.length : Int) := of_decide_eq_true (by first | (with_reducible assumption) | assumption)
                              obtain ⟨ad319, A319_0, c319_0, e319, hx319_0, hl319_0, hi319_0⟩ := at_L2 (Kd.S_reads' HO318.out).2.2 (ji35) p319 q319
                              cases e319
                              obtain ⟨ce319, hce319, hMe319, hcc319⟩ := Kd.S_get HO318.out [] (ji35) p319 (by first | exact q319 | exact of_decide_eq_true (by first | (with_reducible assumption) | assumption) | (have e_ := (Kd.S_reads' HO318.out).1; omega))
                              obtain ⟨ve319_0, rfl, ge319_0⟩ := hMe319
                              have hv319_0 := hcc319 0 _ rfl
                              rw [Nat.add_zero, show ((Kd.slice 29 k29)).sz = 1 from rfl, Nat.mul_one] at hv319_0
                              replace hv319_0 := Option.some.inj (hv319_0.symm.trans hx319_0)
                              rw [hv319_0] at ge319_0
                              have HL319_0 := Aside0.mk (show Kd.R k29 29 _ _ _ _ (rd_L2 y316 (ji35)) from ge319_0)
                              clear hv319_0 ge319_0
                              have HX319_0 := Aside0.mk hx319_0
                              clear hcc319 hce319
                              have HR319_0 := Aside0.mk hi319_0
                              have HC319_0 := Aside0.mk hl319_0
                              clear hi319_0 hl319_0
                              replace p319 := eq_true p319
                              replace q319 := eq_true q319
                              have p320 : 0 ≤ (x9_1 : Int) := of_decide_eq_true (by first | (with_reducible assumption) | assumption)
                              have q320 : x9_1 < (l0.length : Int) := of_decide_eq_true (by first | (with_reducible assumption) | assumption)
                              obtain ⟨ad320, e320, hx320_0, hx320_1⟩ := at_T29 HR0.out x9_1 p320 q320
                              have hw320_1 := hx320_1
                              have hw320_0 := hx320_0
                              cases e320
                              replace hx320_0 := (HB.out.cell (World.block_lt_of_cell? w _ hx320_0)).trans hx320_0
                              replace hx320_1 := (HB.out.cell (World.block_lt_of_cell? w _ hx320_1)).trans hx320_1
                              replace p320 := eq_true p320
                              replace q320 := eq_true q320
                              obtain ⟨go45, co45, eo45, gb45, gl45, cl45, HG45⟩ := Kd.S_form HO318.out (by have h_ : ((ji35) : Int) < ((y316.length : Int) : Int) := of_decide_eq_true (by first | (with_reducible assumption) | assumption); have h2_ : 0 ≤ ((ji35) : Int) := (of_decide_eq_true (by first | (with_reducible assumption) | assumption)); omega)
                              (first | cases eo45 | (injection eo45 with ea_ en_ ec_; (first | subst ea_ | (injection ea_ with ea_; subst ea_)); subst ec_; clear en_))
                              have GB45 := Aside0.mk gb45
                              have GG45 := Aside0.mk HG45
                              clear gb45 gl45 HG45
                              (first | simp only [add_plain] at hx319_0 | skip)
                              obtain ⟨oki45, ce45, hcl45, hM45, hcc45, _, _, hH45⟩ := Kd.S_elem HO318.out [] ((ji35) : Int) (of_decide_eq_true (by first | (with_reducible assumption) | assumption)) (by have h_ : ((ji35) : Int) < ((y316.length : Int) : Int) := of_decide_eq_true (by first | (with_reducible assumption) | assumption); first | exact h_ | (have e_ := (Kd.S_reads' HO318.out).1; omega) | simpa using h_)
                              obtain ⟨ve45_0, rfl, ge45_0⟩ := hM45
                              have hv45 := hcc45 0 _ rfl
                              have hX45 := HX319_0.out
                              (try simp only [add_plain] at hX45)
                              (try simp only [Nat.add_zero] at hv45)
                              (try rw [show ((Kd.slice 29 k29)).sz = 1 from rfl, Nat.mul_one] at hv45)
                              replace hv45 := Option.some.inj (hv45.symm.trans hX45)
                              subst hv45
                              clear hX45 hcc45 hcl45
                              have UU45 := Aside0.mk (show Kd.R k29 29 _ w.heap.size oki45 (.slice A319_0 (rd_L2 y316 (ji35)).length c319_0) (rd_L2 y316 (ji35)) from ge45_0)
                              have HH45 := Aside0.mk hH45
                              have HN45 := Aside0.mk (Kd.S_reads' HO318.out).1
                              clear hH45 ge45_0
                              refine start_ (n := 18) (S := fun w' => w'.cell? ⟨go45, ((ji35)).toNat, none⟩ = some (.slice A319_0 (rd_L2 y316 (ji35)).length c319_0) ∧ w'.cell? (ad320.add ((x9_1).toNat * 2)) = some (.int .i64 ((rd_T29 l0 x9_1).f0)) ∧ w'.cell? ⟨(ad320.add ((x9_1).toNat * 2)).block, (ad320.add ((x9_1).toNat * 2)).off + 1, none⟩ = some (.int .i64 ((rd_T29 l0 x9_1).f1))) (ds := [17]) #[false, false, false, false, false, false, false, false, false, false, false, false, false, false, false, false, false, false] (by kernel_rfl) rfl rfl ⟨hx319_0, ((HB.out.cell (World.block_lt_of_cell? w _ hw320_0)).trans hw320_0), ((HB.out.cell (World.block_lt_of_cell? w _ hw320_1)).trans hw320_1)⟩ (fun hHeld => ?_); refine with_tabW payrollref39_Split.tab12 payrollref39_Split.bits12 (fun HT_ HW_ => ?_)
                              generalize w42.drew = w43 at HL315_0 HO318 BK305 HB GG45 HH45 HL319_0 HR319_0 HX319_0 UU45 hx319_0 hx320_0 hx320_1 hHeld ⊢
                              refine pure_ (i := 0) (N := some 43) (v := ?_) (a' := ?_) #[true, false, false, false, false, false, false, false, false, false, false, false, false, false, false, false, false, false] rfl rfl (any_of HT_.out (by kernel_rfl)) (fun _ _ _ h => h) (Or.inl ⟨by rfl, ?_⟩) ?_ ?_
                              rotate_left
                              · intro w'
                                go_simp
                                with_reducible rfl
                              rotate_left
                              · simp only [Act.put, List.setIfInBounds_toArray, List.set_cons_zero, List.set_cons_succ, i64_w, i32_w]
                                rfl
                              refine pure_ (i := 1) (N := some 44) (v := ?_) (a' := ?_) #[true, true, false, false, false, false, false, false, false, false, false, false, false, false, false, false, false, false] rfl rfl (any_of HT_.out (by kernel_rfl)) (fun _ _ _ h => h) (Or.inl ⟨by rfl, ?_⟩) ?_ ?_
                              rotate_left
                              · intro w'
                                go_simp
                                with_reducible rfl
                              rotate_left
                              · simp only [Act.put, List.setIfInBounds_toArray, List.set_cons_zero, List.set_cons_succ, i64_w, i32_w]
                                rfl
                              refine pure_ (i := 2) (N := some 45) (v := ?_) (a' := ?_) #[true, true, true, false, false, false, false, false, false, false, false, false, false, false, false, false, false, false] rfl rfl (any_of HT_.out (by kernel_rfl)) (fun _ _ _ h => h) (Or.inl ⟨by rfl, ?_⟩) ?_ ?_
                              rotate_left
                              · intro w'
                                go_simp
                                with_reducible rfl
                              rotate_left
                              · simp only [Act.put, List.setIfInBounds_toArray, List.set_cons_zero, List.set_cons_succ, i64_w, i32_w]
                                rfl
                              refine pure_ (i := 3) (N := some 46) (v := ?_) (a' := ?_) #[true, true, true, true, false, false, false, false, false, false, false, false, false, false, false, false, false, false] rfl rfl (any_of HT_.out (by kernel_rfl)) (fun _ _ _ h => h) (Or.inl ⟨by rfl, ?_⟩) ?_ ?_
                              rotate_left
                              · intro w'
                                go_simp
                                with_reducible rfl
                              rotate_left
                              · simp only [Act.put, List.setIfInBounds_toArray, List.set_cons_zero, List.set_cons_succ, i64_w, i32_w]
                                rfl
                              refine pure_ (i := 4) (N := some 47) (v := ?_) (a' := ?_) #[true, true, true, true, true, false, false, false, false, false, false, false, false, false, false, false, false, false] rfl rfl (any_of HT_.out (by kernel_rfl)) (fun _ _ _ h => h) (Or.inl ⟨by rfl, ?_⟩) ?_ ?_
                              rotate_left
                              · intro w'
                                go_simp
                                with_reducible rfl
                              rotate_left
                              · simp only [Act.put, List.setIfInBounds_toArray, List.set_cons_zero, List.set_cons_succ, i64_w, i32_w]
                                rfl
                              refine pure_ (i := 5) (N := some 48) (v := ?_) (a' := ?_) #[true, true, true, true, true, true, false, false, false, false, false, false, false, false, false, false, false, false] rfl rfl (any_of HT_.out (by kernel_rfl)) (fun _ _ _ h => h) (Or.inl ⟨by rfl, ?_⟩) ?_ ?_
                              rotate_left
                              · intro w'
                                go_simp
                                with_reducible rfl
                              rotate_left
                              · simp only [Act.put, List.setIfInBounds_toArray, List.set_cons_zero, List.set_cons_succ, i64_w, i32_w]
                                rfl
                              refine pure_ (i := 6) (N := some 49) (v := ?_) (a' := ?_) #[true, true, true, true, true, true, true, false, false, false, false, false, false, false, false, false, false, false] rfl rfl (any_of HT_.out (by kernel_rfl)) (fun _ _ _ h => h) (Or.inl ⟨by rfl, ?_⟩) ?_ ?_
                              rotate_left
                              · intro w'
                                go_simp
                                with_reducible rfl
                              rotate_left
                              · simp only [Act.put, List.setIfInBounds_toArray, List.set_cons_zero, List.set_cons_succ, i64_w, i32_w]
                                rfl
                              refine pure_ (i := 7) (N := some 50) (v := ?_) (a' := ?_) #[true, true, true, true, true, true, true, true, false, false, false, false, false, false, false, false, false, false] rfl rfl (any_of HT_.out (by kernel_rfl)) (fun _ _ _ h => h) (Or.inl ⟨by rfl, ?_⟩) ?_ ?_
                              rotate_left
                              · intro w'
                                go_simp
                                with_reducible rfl
                              rotate_left
                              · simp only [Act.put, List.setIfInBounds_toArray, List.set_cons_zero, List.set_cons_succ, i64_w, i32_w]
                                rfl
                              refine pure_ (i := 8) (N := some 51) (v := ?_) (a' := ?_) #[true, true, true, true, true, true, true, true, true, false, false, false, false, false, false, false, false, false] rfl rfl (any_of HT_.out (by kernel_rfl)) (fun _ _ _ h => h) (Or.inl ⟨by rfl, ?_⟩) ?_ ?_
                              rotate_left
                              · intro w'
                                go_simp
                                with_reducible rfl
                              rotate_left
                              · simp only [Act.put, List.setIfInBounds_toArray, List.set_cons_zero, List.set_cons_succ, i64_w, i32_w]
                                rfl
                              refine pure_ (i := 10) (N := some 53) (v := ?_) (a' := ?_) #[true, true, true, true, true, true, true, true, true, false, true, false, false, false, false, false, false, false] rfl rfl (any_of HT_.out (by kernel_rfl)) (fun _ _ _ h => h) (Or.inl ⟨by rfl, ?_⟩) ?_ ?_
                              rotate_left
                              · intro w'
                                go_simp
                                with_reducible rfl
                              rotate_left
                              · simp only [Act.put, List.setIfInBounds_toArray, List.set_cons_zero, List.set_cons_succ, i64_w, i32_w]
                                rfl
                              refine pure_ (i := 11) (N := some 54) (v := ?_) (a' := ?_) #[true, true, true, true, true, true, true, true, true, false, true, true, false, false, false, false, false, false] rfl rfl (any_of HT_.out (by kernel_rfl)) (fun _ _ _ h => h) (Or.inl ⟨by rfl, ?_⟩) ?_ ?_
                              rotate_left
                              · intro w'
                                go_simp
                                with_reducible rfl
                              rotate_left
                              · simp only [Act.put, List.setIfInBounds_toArray, List.set_cons_zero, List.set_cons_succ, i64_w, i32_w]
                                rfl
                              refine pure_ (i := 12) (N := some 55) (v := ?_) (a' := ?_) #[true, true, true, true, true, true, true, true, true, false, true, true, true, false, false, false, false, false] rfl rfl (any_of HT_.out (by kernel_rfl)) (fun _ _ _ h => h) (Or.inl ⟨by rfl, ?_⟩) ?_ ?_
                              rotate_left
                              · intro w'
                                go_simp
                                with_reducible rfl
                              rotate_left
                              · simp only [Act.put, List.setIfInBounds_toArray, List.set_cons_zero, List.set_cons_succ, i64_w, i32_w]
                                rfl
                              refine take_ (i := 9) (N := some 52) (v := ?_) (a' := ?_) #[true, true, true, true, true, true, true, true, true, true, true, true, true, false, false, false, false, false] rfl rfl (take_ofW HT_.out HW_.out (by kernel_rfl)) (fun _ _ _ h => h) (Or.inl ⟨by rfl, ?_⟩) hHeld ?_ ?_
                              rotate_left
                              · rintro w' ⟨s0, s1, s2⟩
                                go_simp
                                with_reducible rfl
                              rotate_left
                              · simp only [Act.put, List.setIfInBounds_toArray, List.set_cons_zero, List.set_cons_succ, i64_w, i32_w]
                                rfl
                              refine take_ (i := 13) (N := some 56) (v := ?_) (a' := ?_) #[true, true, true, true, true, true, true, true, true, true, true, true, true, true, false, false, false, false] rfl rfl (take_ofW HT_.out HW_.out (by kernel_rfl)) (fun _ _ _ h => h) (Or.inl ⟨by rfl, ?_⟩) hHeld ?_ ?_
                              rotate_left
                              · rintro w' ⟨s0, s1, s2⟩
                                go_simp
                                with_reducible rfl
                              rotate_left
                              · simp only [Act.put, List.setIfInBounds_toArray, List.set_cons_zero, List.set_cons_succ, i64_w, i32_w]
                                rfl
                              refine one_ (i := 14) (N := some 57) #[true, true, true, true, true, true, true, true, true, true, true, true, true, true, true, false, false, false] rfl rfl (one_of HT_.out (by kernel_rfl)) (by decide) (fun K hK => ?_)
                              refine value_ (w1 := ?_) (v := ?_) (by rfl) rfl ?_ ?_
                              rotate_left 2
                              · go_simp
                                constructor
                                · rfl
                                · rfl
                              refine hK.out _ _ ⟨(World.cell?_alloc_lt _ _ _ (World.block_lt_of_cell? _ _ (hHeld.1))).trans (hHeld.1), (World.cell?_alloc_lt _ _ _ (World.block_lt_of_cell? _ _ (((HB.out.cell (World.block_lt_of_cell? w _ hw320_0)).trans hw320_0)))).trans (((HB.out.cell (World.block_lt_of_cell? w _ hw320_0)).trans hw320_0)), (World.cell?_alloc_lt _ _ _ (World.block_lt_of_cell? _ _ (((HB.out.cell (World.block_lt_of_cell? w _ hw320_1)).trans hw320_1)))).trans (((HB.out.cell (World.block_lt_of_cell? w _ hw320_1)).trans hw320_1))⟩ (fun hHeld => ?_)
                              clear hK K
                              refine norm_ (a' := ?_) ?_ ?_
                              rotate_left
                              · show Act.put _ (some 57) _ = _
                                simp only [Act.put, List.setIfInBounds_toArray, List.set_cons_zero, List.set_cons_succ, i64_w, i32_w]
                                rfl
                              refine one_ (i := 15) (N := some 58) #[true, true, true, true, true, true, true, true, true, true, true, true, true, true, true, true, false, false] rfl rfl (one_of HT_.out (by kernel_rfl)) (by decide) (fun K hK => ?_)
                              refine Kd.R_append_step k29 (w0 := w) w.heap.size (by rfl) (.tmp 52) (.tmp 57) 25 29 (.agg #[(.int .i64 0), (.int .i64 0)]) 16 rfl Try.underlying25 info29 rfl (by decide) (by omega) (.slice A319_0 (rd_L2 y316 (ji35)).length c319_0) (rd_L2 y316 (ji35)) (⟨(rd_T29 l0 x9_1).f0, (rd_T29 l0 x9_1).f1⟩ : S29) [.int .i64 ((rd_T29 l0 x9_1).f0), .int .i64 ((rd_T29 l0 x9_1).f1)] (fun k_ => oki45 k_ ∨ ((fun _ => True)) k_ ∧ w43.heap.size ≤ k_) (fun _ => False) rfl rfl ?aP (fun _ hk => hk.elim) ?aF ?aO ?aB ?aS ?aL ?_
                              (case aP => exact k29_mkM _ _ _ (⟨(rd_T29 l0 x9_1).f0, (rd_T29 l0 x9_1).f1⟩ : S29))
                              (case aB => exact (by repeat (first | (with_reducible first | exact HB.out | apply below_alloc | apply pw_below_drewN | apply below_drew1 | refine below_set ?_ GE305.out) | exact HB.out)))
                              (case aF => exact (fun k_ hk => .inr ⟨trivial, hk⟩))
                              (case aO => exact (by (with_reducible repeat (first | apply Kd.R_alloc | apply Kd.R_drewN | apply Kd.R_drew)); exact Kd.R_mono UU45.out (fun _ hk => .inl hk)))
                              (case aS => exact (below_size (by repeat (first | (with_reducible first | exact HB.out | apply below_alloc | apply pw_below_drewN | apply below_drew1 | refine below_set ?_ GE305.out) | exact HB.out))))
                              (case aL => have := LMc39.out; omega)
                              intro v322 w46 ho hb hg hat
                              (first | have HS0_ := Go.Proofs.YtdmcffabkeodpaaW.PrintWords.cell_grown hg (hHeld.1) (by first | (rw [add_block]; exact (fun e_ => ((HL319_0.out.1 _ e_.symm).2) rfl)) | (show some (Addr.add _ _).block ≠ _; rw [add_block]; exact (fun e_ => ((HL319_0.out.1 _ e_.symm).2) rfl)) | exact (fun e_ => ((HL319_0.out.1 _ e_.symm).2) rfl)) | have HS0_ := Go.Proofs.YtdmcffabkeodpaaW.PrintWords.cell_grown hg (cell_unalloc (hHeld.1) (by first | (rw [add_block]; exact Kd.S_lt HO318.out _ rfl) | (show (Addr.add _ _).block < _; rw [add_block]; exact Kd.S_lt HO318.out _ rfl) | exact Kd.S_lt HO318.out _ rfl)) (by first | (rw [add_block]; exact (fun e_ => ((HL319_0.out.1 _ e_.symm).2) rfl)) | (show some (Addr.add _ _).block ≠ _; rw [add_block]; exact (fun e_ => ((HL319_0.out.1 _ e_.symm).2) rfl)) | exact (fun e_ => ((HL319_0.out.1 _ e_.symm).2) rfl)))
                              rw [← Ny321.out] at ho
                              have n0_ := Aside0.mk (blk_grown (g := gb305) (o := .cells #[.int .i64 t301, .int .i64 t302, .int .i64 t303] 34 (0, 0)) (by (with_reducible repeat (first | refine blk_drewN ?_ _ | refine blk_drew ?_ | refine blk_alloc ?_ _)); exact BK305.out) hg (Kd.R_ne HL319_0.out BK305.out (by decide)))
                              have n1_ := Aside0.mk (hb)
                              have n2_ := Aside0.mk (Kd.H_grown (Kd.H_widen (by repeat (first | exact HH45.out | refine Kd.H_alloc ?_ _ | refine Kd.H_drewN ?_ _ | refine Kd.H_drew ?_))) hg (fun k_ e_ => .inl (UU45.out.1 k_ e_)))
                              have n3_ := Aside0.mk (ho)
                              clear BK305
                              clear HB
                              clear HH45
                              clear HO318
                              clear UU45
                              clear HL315_0
                              clear HL319_0
                              have BK305 := n0_
                              have HB := n1_
                              have HH45 := n2_
                              have HO323 := n3_
                              clear n0_ n1_ n2_ n3_
                              clear ho hb hg hat
                              have p40 : 0 ≤ ((ji35) : Int) := of_decide_eq_true (by first | (with_reducible assumption) | assumption)
                              have q40 : ((ji35) : Int) < ((y316.length : Int) : Int) := of_decide_eq_true (by first | (with_reducible assumption) | assumption)
                              replace p40 := eq_true p40
                              replace q40 := eq_true q40
                              obtain ⟨Ao49, co49, eo49⟩ := Kd.R_slice HO323.out
                              (first | subst eo49 | (injection eo49 with f1_ f2_ f3_; have f4_ := f1_.symm; have f5_ := f3_.symm; clear f1_ f2_ f3_; subst f4_; subst f5_))
                              obtain ⟨_, _, hraw47, _, _, hcc47, _⟩ := Kd.H_raw HH45.out (of_decide_eq_true (by first | (with_reducible assumption) | assumption)) (by have h_ : ((ji35) : Int) < ((y316.length : Int) : Int) := of_decide_eq_true (by first | (with_reducible assumption) | assumption); first | exact h_ | (have e_ := (HN45.out); omega) | simpa using h_)
                              obtain ⟨_, hfr47⟩ := Kd.H_at HH45.out (of_decide_eq_true (by first | (with_reducible assumption) | assumption)) (by have h_ : ((ji35) : Int) < ((y316.length : Int) : Int) := of_decide_eq_true (by first | (with_reducible assumption) | assumption); first | exact h_ | (have e_ := (HN45.out); omega) | simpa using h_)
                              have hx47_0 := hcc47 0 _ rfl
                              have hf47_0 := hfr47 0
                              (try simp only [Nat.add_zero] at hx47_0 hf47_0)
                              (try rw [show ((Kd.slice 29 k29)).sz = 1 from rfl, Nat.mul_one] at hx47_0)
                              (try rw [show ((Kd.slice 29 k29)).sz = 1 from rfl, Nat.mul_one] at hf47_0)
                              have HP47 := Kd.S_seg0 HH45.out (of_decide_eq_true (by first | (with_reducible assumption) | assumption)) (by have h_ : ((ji35) : Int) < ((y316.length : Int) : Int) := of_decide_eq_true (by first | (with_reducible assumption) | assumption); first | exact h_ | (have e_ := (HN45.out); omega) | simpa using h_) (seg := [.slice Ao49 y321.length co49]) (j := 0) (show 1 ≤ 1 from by decide) (x' := y321) (Kd.M_row HO323.out) (fun _ hk => hk)
                              (try simp only [show ((Kd.slice 29 k29)).sz = 1 from rfl, Nat.mul_one, Nat.add_zero] at HP47)
                              clear hcc47 hfr47
                              have HNB305_go45 := Aside0.mk (show gb305 ≠ go45 from by have h_ := Kd.R_ne hraw47 BK305.out (by decide); intro e_; exact h_ (by rw [e_]; rfl))
                              have HS47 := HP47.1
                              rw [← Ny324.out] at HS47
                              have HQ47 := Aside0.mk HS47
                              obtain ⟨_, hgg47⟩ := Kd.R_typed hraw47 go45 rfl
                              have GG47_ := Aside0.mk hgg47
                              clear HP47 HS47 hgg47
                              refine hK.out _ _ ⟨HS0_, ((HB.out.cell (World.block_lt_of_cell? w _ hw320_0)).trans hw320_0), ((HB.out.cell (World.block_lt_of_cell? w _ hw320_1)).trans hw320_1)⟩ (fun hHeld => ?_)
                              clear hK K
                              refine norm_ (a' := ?_) ?_ ?_
                              rotate_left
                              · show Act.put _ (some 58) _ = _
                                simp only [Act.put, List.setIfInBounds_toArray, List.set_cons_zero, List.set_cons_succ, i64_w, i32_w]
                                rfl
                              refine pure_ (i := 16) (N := some 59) (v := ?_) (a' := ?_) #[true, true, true, true, true, true, true, true, true, true, true, true, true, true, true, true, true, false] rfl rfl (any_of HT_.out (by kernel_rfl)) (fun _ _ _ h => h) (Or.inl ⟨by rfl, ?_⟩) ?_ ?_
                              rotate_left
                              · intro w'
                                go_simp
                                with_reducible rfl
                              rotate_left
                              · simp only [Act.put, List.setIfInBounds_toArray, List.set_cons_zero, List.set_cons_succ, i64_w, i32_w]
                                rfl
                              refine last_ (i := 17) (N := none) #[true, true, true, true, true, true, true, true, true, true, true, true, true, true, true, true, true, true] rfl rfl (one_of HT_.out (by kernel_rfl)) (by decide) (fun K hK => ?_)
                              refine skip_ (w1 := ?_) (by rfl) rfl ?_ ?_
                              rotate_left
                              · go_simp
                                rfl
                              refine hK.out _ _ ?_
                              clear hK K
                              refine done_ (done_of HT_.out (by kernel_rfl)) ?_
                              try go_wp2
                              go_roundg k1
                              case measure => have := HK1.out; omega
                              case rel => exact ⟨(y324), (wrap64 (x9_1 + 1)), (by first | rfl | (simp; done) | (simp [*]; done)), H', ⟨by have := HK1.out; omega⟩, ⟨by (with_reducible repeat (first | apply Kd.S_alloc | apply Kd.S_drewN | apply Kd.S_drew)); exact HQ47.out⟩, ⟨by (with_reducible repeat (first | refine blk_drewN ?_ _ | refine blk_drew ?_ | refine blk_alloc ?_ _)); refine blk_far ?_ HNB305_go45.out _; (with_reducible repeat (first | refine blk_drewN ?_ _ | refine blk_drew ?_ | refine blk_alloc ?_ _)); exact BK305.out⟩, ⟨by repeat (first | (with_reducible first | exact HB.out | apply below_alloc | apply pw_below_drewN | apply below_drew1 | refine below_set ?_ GB45.out | refine below_set ?_ GE305.out) | exact HB.out)⟩⟩
                            · rw [if_neg c39] at H
                              exact absurd H (by simp)
                          · rw [if_neg c38] at H
                            exact absurd H (by simp)
                        · rw [if_neg c37] at H
                          exact absurd H (by simp)
                      · rw [if_neg c36] at H
                        exact absurd H (by simp)
                    · rw [if_neg c34] at H
                      exact absurd H (by simp)
                  · rw [if_neg c33] at H
                    have c33b0 : (((rd_L2 x8_1 (ji30)).length : Int) == a1) = false := beq_eq_false_iff_ne.mpr c33
                    have c33b1 : (((rd_L2 x8_1 (ji30)).length : Int) != a1) = true := bne_iff_ne.mpr c33
                    by_cases c50 : 0 ≤ x9_1
                    · rw [if_pos c50] at H
                      have c50b0 : decide (0 ≤ x9_1) = true := decide_eq_true c50
                      clear c50
                      by_cases c51 : (rd_L2 x8_1 (ji30)).length < 8796093022208
                      · rw [if_pos c51] at H
                        have LMc51 := Aside0.mk c51
                        clear c51
                        obtain ⟨y327, hy327⟩ : ∃ y_ : List (S29), y_ = ((rd_L2 x8_1 (ji30)) ++ [(⟨(rd_T29 l0 x9_1).f0, (rd_T29 l0 x9_1).f1⟩ : S29)]) := ⟨_, rfl⟩
                        replace H : (payrollref39_Split.l0 k1 l0 a1 (x8_1.set ((ji30) : Int).toNat y327) (wrap64 (x9_1 + 1))) = some (r1, r2) := by first | (rw [hy327]; with_reducible exact H) | (have H2_ := (Option.bind_some _ _).symm.trans H; rw [hy327]; with_reducible exact H2_) | (have H2_ := (Option.bind_some _ _).symm.trans H; with_reducible exact H2_) | with_reducible exact H | (rw [hy327]; exact H) | exact H
                        have Ny327 := Aside0.mk hy327
                        clear hy327
                        obtain ⟨y330, hy330⟩ : ∃ y_ : List (List (S29)), y_ = (x8_1.set ((ji30) : Int).toNat y327) := ⟨_, rfl⟩
                        replace H : (payrollref39_Split.l0 k1 l0 a1 y330 (wrap64 (x9_1 + 1))) = some (r1, r2) := by first | (rw [hy330]; with_reducible exact H) | (have H2_ := (Option.bind_some _ _).symm.trans H; rw [hy330]; with_reducible exact H2_) | (have H2_ := (Option.bind_some _ _).symm.trans H; with_reducible exact H2_) | with_reducible exact H | (rw [hy330]; exact H) | exact H
                        have Ny330 := Aside0.mk hy330
                        clear hy330
                        have H' := Aside0.mk H
                        clear H
                        obtain ⟨Ao53, co53, eo53⟩ := Kd.S_slice HO_8.out
                        subst eo53
                        have p315 : 0 ≤ ((ji30) : Int) := of_decide_eq_true (by first | (with_reducible assumption) | assumption)
                        have q315 : (ji30) < (x8_1.length : Int) := of_decide_eq_true (by first | (with_reducible assumption) | assumption)
                        obtain ⟨ad315, A315_0, c315_0, e315, hx315_0, hl315_0, hi315_0⟩ := at_L2 (Kd.S_reads' HO_8.out).2.2 (ji30) p315 q315
                        cases e315
                        obtain ⟨ce315, hce315, hMe315, hcc315⟩ := Kd.S_get HO_8.out [] (ji30) p315 (by first | exact q315 | exact of_decide_eq_true (by first | (with_reducible assumption) | assumption) | (have e_ := (Kd.S_reads' HO_8.out).1; omega))
                        obtain ⟨ve315_0, rfl, ge315_0⟩ := hMe315
                        have hv315_0 := hcc315 0 _ rfl
                        rw [Nat.add_zero, show ((Kd.slice 29 k29)).sz = 1 from rfl, Nat.mul_one] at hv315_0
                        replace hv315_0 := Option.some.inj (hv315_0.symm.trans hx315_0)
                        rw [hv315_0] at ge315_0
                        have HL315_0 := Aside0.mk (show Kd.R k29 29 _ _ _ _ (rd_L2 x8_1 (ji30)) from ge315_0)
                        clear hv315_0 ge315_0
                        have HX315_0 := Aside0.mk hx315_0
                        clear hcc315 hce315
                        have HR315_0 := Aside0.mk hi315_0
                        have HC315_0 := Aside0.mk hl315_0
                        clear hi315_0 hl315_0
                        replace p315 := eq_true p315
                        replace q315 := eq_true q315
                        try go_wp2
                        have n0_ := Aside0.mk (Kd.S_drew HO_8.out)
                        have n1_ := Aside0.mk (Kd.R_drew HL315_0.out)
                        have n2_ := Aside0.mk (blk_drew BK305.out)
                        have n3_ := Aside0.mk (Kd.C_drew HR315_0.out)
                        have n4_ := Aside0.mk (below_drew1 HB.out)
                        clear HO_8
                        clear HL315_0
                        clear BK305
                        clear HR315_0
                        clear HB
                        have HO_8 := n0_
                        have HL315_0 := n1_
                        have BK305 := n2_
                        have HR315_0 := n3_
                        have HB := n4_
                        clear n0_ n1_ n2_ n3_ n4_
                        have p325 : 0 ≤ ((ji30) : Int) := of_decide_eq_true (by first | (with_reducible assumption) | assumption)
                        have q325 : (ji30) < (x8_1.length : Int) := of_decide_eq_true (by first | (with_reducible assumption) | assumption)
                        obtain ⟨ad325, A325_0, c325_0, e325, hx325_0, hl325_0, hi325_0⟩ := at_L2 (Kd.S_reads' HO_8.out).2.2 (ji30) p325 q325
                        obtain rfl : ad315 = ad325 := (by injection e325)
                        obtain ⟨ce325, hce325, hMe325, hcc325⟩ := Kd.S_get HO_8.out [] (ji30) p325 (by first | exact q325 | exact of_decide_eq_true (by first | (with_reducible assumption) | assumption) | (have e_ := (Kd.S_reads' HO_8.out).1; omega))
                        obtain ⟨ve325_0, rfl, ge325_0⟩ := hMe325
                        have hv325_0 := hcc325 0 _ rfl
                        rw [Nat.add_zero, show ((Kd.slice 29 k29)).sz = 1 from rfl, Nat.mul_one] at hv325_0
                        replace hv325_0 := Option.some.inj (hv325_0.symm.trans hx325_0)
                        rw [hv325_0] at ge325_0
                        have HL325_0 := Aside0.mk (show Kd.R k29 29 _ _ _ _ (rd_L2 x8_1 (ji30)) from ge325_0)
                        clear hv325_0 ge325_0
                        have HX325_0 := Aside0.mk hx325_0
                        clear hcc325 hce325
                        have HR325_0 := Aside0.mk hi325_0
                        have HC325_0 := Aside0.mk hl325_0
                        clear hi325_0 hl325_0
                        replace p325 := eq_true p325
                        replace q325 := eq_true q325
                        have p326 : 0 ≤ (x9_1 : Int) := of_decide_eq_true (by first | (with_reducible assumption) | assumption)
                        have q326 : x9_1 < (l0.length : Int) := of_decide_eq_true (by first | (with_reducible assumption) | assumption)
                        obtain ⟨ad326, e326, hx326_0, hx326_1⟩ := at_T29 HR0.out x9_1 p326 q326
                        have hw326_1 := hx326_1
                        have hw326_0 := hx326_0
                        cases e326
                        replace hx326_0 := (HB.out.cell (World.block_lt_of_cell? w _ hx326_0)).trans hx326_0
                        replace hx326_1 := (HB.out.cell (World.block_lt_of_cell? w _ hx326_1)).trans hx326_1
                        replace p326 := eq_true p326
                        replace q326 := eq_true q326
                        obtain ⟨go55, co55, eo55, gb55, gl55, cl55, HG55⟩ := Kd.S_form HO_8.out (by have h_ : ((ji30) : Int) < ((x8_1.length : Int) : Int) := of_decide_eq_true (by first | (with_reducible assumption) | assumption); have h2_ : 0 ≤ ((ji30) : Int) := (of_decide_eq_true (by first | (with_reducible assumption) | assumption)); omega)
                        (first | cases eo55 | (injection eo55 with ea_ en_ ec_; (first | subst ea_ | (injection ea_ with ea_; subst ea_)); subst ec_; clear en_))
                        have GB55 := Aside0.mk gb55
                        have GG55 := Aside0.mk HG55
                        clear gb55 gl55 HG55
                        (first | simp only [add_plain] at hx315_0 | skip)
                        (first | simp only [add_plain] at hx325_0 | skip)
                        obtain ⟨oki55, ce55, hcl55, hM55, hcc55, _, _, hH55⟩ := Kd.S_elem HO_8.out [] ((ji30) : Int) (of_decide_eq_true (by first | (with_reducible assumption) | assumption)) (by have h_ : ((ji30) : Int) < ((x8_1.length : Int) : Int) := of_decide_eq_true (by first | (with_reducible assumption) | assumption); first | exact h_ | (have e_ := (Kd.S_reads' HO_8.out).1; omega) | simpa using h_)
                        obtain ⟨ve55_0, rfl, ge55_0⟩ := hM55
                        have hv55 := hcc55 0 _ rfl
                        have hX55 := HX325_0.out
                        (try simp only [add_plain] at hX55)
                        (try simp only [Nat.add_zero] at hv55)
                        (try rw [show ((Kd.slice 29 k29)).sz = 1 from rfl, Nat.mul_one] at hv55)
                        replace hv55 := Option.some.inj (hv55.symm.trans hX55)
                        subst hv55
                        clear hX55 hcc55 hcl55
                        have UU55 := Aside0.mk (show Kd.R k29 29 _ w.heap.size oki55 (.slice A325_0 (rd_L2 x8_1 (ji30)).length c325_0) (rd_L2 x8_1 (ji30)) from ge55_0)
                        have HH55 := Aside0.mk hH55
                        have HN55 := Aside0.mk (Kd.S_reads' HO_8.out).1
                        clear hH55 ge55_0
                        refine start_ (n := 18) (S := fun w' => w'.cell? ⟨go55, ((ji30)).toNat, none⟩ = some (.slice A325_0 (rd_L2 x8_1 (ji30)).length c325_0) ∧ w'.cell? (ad326.add ((x9_1).toNat * 2)) = some (.int .i64 ((rd_T29 l0 x9_1).f0)) ∧ w'.cell? ⟨(ad326.add ((x9_1).toNat * 2)).block, (ad326.add ((x9_1).toNat * 2)).off + 1, none⟩ = some (.int .i64 ((rd_T29 l0 x9_1).f1))) (ds := [17]) #[false, false, false, false, false, false, false, false, false, false, false, false, false, false, false, false, false, false] (by kernel_rfl) rfl rfl ⟨hx325_0, ((HB.out.cell (World.block_lt_of_cell? w _ hw326_0)).trans hw326_0), ((HB.out.cell (World.block_lt_of_cell? w _ hw326_1)).trans hw326_1)⟩ (fun hHeld => ?_); refine with_tabW payrollref39_Split.tab12 payrollref39_Split.bits12 (fun HT_ HW_ => ?_)
                        generalize wr.drew = w54 at HO_8 HL315_0 BK305 HR315_0 HB GG55 HH55 HL325_0 HR325_0 HX325_0 UU55 hx315_0 hx325_0 hx326_0 hx326_1 hHeld ⊢
                        refine pure_ (i := 0) (N := some 43) (v := ?_) (a' := ?_) #[true, false, false, false, false, false, false, false, false, false, false, false, false, false, false, false, false, false] rfl rfl (any_of HT_.out (by kernel_rfl)) (fun _ _ _ h => h) (Or.inl ⟨by rfl, ?_⟩) ?_ ?_
                        rotate_left
                        · intro w'
                          go_simp
                          with_reducible rfl
                        rotate_left
                        · simp only [Act.put, List.setIfInBounds_toArray, List.set_cons_zero, List.set_cons_succ, i64_w, i32_w]
                          rfl
                        refine pure_ (i := 1) (N := some 44) (v := ?_) (a' := ?_) #[true, true, false, false, false, false, false, false, false, false, false, false, false, false, false, false, false, false] rfl rfl (any_of HT_.out (by kernel_rfl)) (fun _ _ _ h => h) (Or.inl ⟨by rfl, ?_⟩) ?_ ?_
                        rotate_left
                        · intro w'
                          go_simp
                          with_reducible rfl
                        rotate_left
                        · simp only [Act.put, List.setIfInBounds_toArray, List.set_cons_zero, List.set_cons_succ, i64_w, i32_w]
                          rfl
                        refine pure_ (i := 2) (N := some 45) (v := ?_) (a' := ?_) #[true, true, true, false, false, false, false, false, false, false, false, false, false, false, false, false, false, false] rfl rfl (any_of HT_.out (by kernel_rfl)) (fun _ _ _ h => h) (Or.inl ⟨by rfl, ?_⟩) ?_ ?_
                        rotate_left
                        · intro w'
                          go_simp
                          with_reducible rfl
                        rotate_left
                        · simp only [Act.put, List.setIfInBounds_toArray, List.set_cons_zero, List.set_cons_succ, i64_w, i32_w]
                          rfl
                        refine pure_ (i := 3) (N := some 46) (v := ?_) (a' := ?_) #[true, true, true, true, false, false, false, false, false, false, false, false, false, false, false, false, false, false] rfl rfl (any_of HT_.out (by kernel_rfl)) (fun _ _ _ h => h) (Or.inl ⟨by rfl, ?_⟩) ?_ ?_
                        rotate_left
                        · intro w'
                          go_simp
                          with_reducible rfl
                        rotate_left
                        · simp only [Act.put, List.setIfInBounds_toArray, List.set_cons_zero, List.set_cons_succ, i64_w, i32_w]
                          rfl
                        refine pure_ (i := 4) (N := some 47) (v := ?_) (a' := ?_) #[true, true, true, true, true, false, false, false, false, false, false, false, false, false, false, false, false, false] rfl rfl (any_of HT_.out (by kernel_rfl)) (fun _ _ _ h => h) (Or.inl ⟨by rfl, ?_⟩) ?_ ?_
                        rotate_left
                        · intro w'
                          go_simp
                          with_reducible rfl
                        rotate_left
                        · simp only [Act.put, List.setIfInBounds_toArray, List.set_cons_zero, List.set_cons_succ, i64_w, i32_w]
                          rfl
                        refine pure_ (i := 5) (N := some 48) (v := ?_) (a' := ?_) #[true, true, true, true, true, true, false, false, false, false, false, false, false, false, false, false, false, false] rfl rfl (any_of HT_.out (by kernel_rfl)) (fun _ _ _ h => h) (Or.inl ⟨by rfl, ?_⟩) ?_ ?_
                        rotate_left
                        · intro w'
                          go_simp
                          with_reducible rfl
                        rotate_left
                        · simp only [Act.put, List.setIfInBounds_toArray, List.set_cons_zero, List.set_cons_succ, i64_w, i32_w]
                          rfl
                        refine pure_ (i := 6) (N := some 49) (v := ?_) (a' := ?_) #[true, true, true, true, true, true, true, false, false, false, false, false, false, false, false, false, false, false] rfl rfl (any_of HT_.out (by kernel_rfl)) (fun _ _ _ h => h) (Or.inl ⟨by rfl, ?_⟩) ?_ ?_
                        rotate_left
                        · intro w'
                          go_simp
                          with_reducible rfl
                        rotate_left
                        · simp only [Act.put, List.setIfInBounds_toArray, List.set_cons_zero, List.set_cons_succ, i64_w, i32_w]
                          rfl
                        refine pure_ (i := 7) (N := some 50) (v := ?_) (a' := ?_) #[true, true, true, true, true, true, true, true, false, false, false, false, false, false, false, false, false, false] rfl rfl (any_of HT_.out (by kernel_rfl)) (fun _ _ _ h => h) (Or.inl ⟨by rfl, ?_⟩) ?_ ?_
                        rotate_left
                        · intro w'
                          go_simp
                          with_reducible rfl
                        rotate_left
                        · simp only [Act.put, List.setIfInBounds_toArray, List.set_cons_zero, List.set_cons_succ, i64_w, i32_w]
                          rfl
                        refine pure_ (i := 8) (N := some 51) (v := ?_) (a' := ?_) #[true, true, true, true, true, true, true, true, true, false, false, false, false, false, false, false, false, false] rfl rfl (any_of HT_.out (by kernel_rfl)) (fun _ _ _ h => h) (Or.inl ⟨by rfl, ?_⟩) ?_ ?_
                        rotate_left
                        · intro w'
                          go_simp
                          with_reducible rfl
                        rotate_left
                        · simp only [Act.put, List.setIfInBounds_toArray, List.set_cons_zero, List.set_cons_succ, i64_w, i32_w]
                          rfl
                        refine pure_ (i := 10) (N := some 53) (v := ?_) (a' := ?_) #[true, true, true, true, true, true, true, true, true, false, true, false, false, false, false, false, false, false] rfl rfl (any_of HT_.out (by kernel_rfl)) (fun _ _ _ h => h) (Or.inl ⟨by rfl, ?_⟩) ?_ ?_
                        rotate_left
                        · intro w'
                          go_simp
                          with_reducible rfl
                        rotate_left
                        · simp only [Act.put, List.setIfInBounds_toArray, List.set_cons_zero, List.set_cons_succ, i64_w, i32_w]
                          rfl
                        refine pure_ (i := 11) (N := some 54) (v := ?_) (a' := ?_) #[true, true, true, true, true, true, true, true, true, false, true, true, false, false, false, false, false, false] rfl rfl (any_of HT_.out (by kernel_rfl)) (fun _ _ _ h => h) (Or.inl ⟨by rfl, ?_⟩) ?_ ?_
                        rotate_left
                        · intro w'
                          go_simp
                          with_reducible rfl
                        rotate_left
                        · simp only [Act.put, List.setIfInBounds_toArray, List.set_cons_zero, List.set_cons_succ, i64_w, i32_w]
                          rfl
                        refine pure_ (i := 12) (N := some 55) (v := ?_) (a' := ?_) #[true, true, true, true, true, true, true, true, true, false, true, true, true, false, false, false, false, false] rfl rfl (any_of HT_.out (by kernel_rfl)) (fun _ _ _ h => h) (Or.inl ⟨by rfl, ?_⟩) ?_ ?_
                        rotate_left
                        · intro w'
                          go_simp
                          with_reducible rfl
                        rotate_left
                        · simp only [Act.put, List.setIfInBounds_toArray, List.set_cons_zero, List.set_cons_succ, i64_w, i32_w]
                          rfl
                        refine take_ (i := 9) (N := some 52) (v := ?_) (a' := ?_) #[true, true, true, true, true, true, true, true, true, true, true, true, true, false, false, false, false, false] rfl rfl (take_ofW HT_.out HW_.out (by kernel_rfl)) (fun _ _ _ h => h) (Or.inl ⟨by rfl, ?_⟩) hHeld ?_ ?_
                        rotate_left
                        · rintro w' ⟨s0, s1, s2⟩
                          go_simp
                          with_reducible rfl
                        rotate_left
                        · simp only [Act.put, List.setIfInBounds_toArray, List.set_cons_zero, List.set_cons_succ, i64_w, i32_w]
                          rfl
                        refine take_ (i := 13) (N := some 56) (v := ?_) (a' := ?_) #[true, true, true, true, true, true, true, true, true, true, true, true, true, true, false, false, false, false] rfl rfl (take_ofW HT_.out HW_.out (by kernel_rfl)) (fun _ _ _ h => h) (Or.inl ⟨by rfl, ?_⟩) hHeld ?_ ?_
                        rotate_left
                        · rintro w' ⟨s0, s1, s2⟩
                          go_simp
                          with_reducible rfl
                        rotate_left
                        · simp only [Act.put, List.setIfInBounds_toArray, List.set_cons_zero, List.set_cons_succ, i64_w, i32_w]
                          rfl
                        refine one_ (i := 14) (N := some 57) #[true, true, true, true, true, true, true, true, true, true, true, true, true, true, true, false, false, false] rfl rfl (one_of HT_.out (by kernel_rfl)) (by decide) (fun K hK => ?_)
                        refine value_ (w1 := ?_) (v := ?_) (by rfl) rfl ?_ ?_
                        rotate_left 2
                        · go_simp
                          constructor
                          · rfl
                          · rfl
                        refine hK.out _ _ ⟨(World.cell?_alloc_lt _ _ _ (World.block_lt_of_cell? _ _ (hHeld.1))).trans (hHeld.1), (World.cell?_alloc_lt _ _ _ (World.block_lt_of_cell? _ _ (((HB.out.cell (World.block_lt_of_cell? w _ hw326_0)).trans hw326_0)))).trans (((HB.out.cell (World.block_lt_of_cell? w _ hw326_0)).trans hw326_0)), (World.cell?_alloc_lt _ _ _ (World.block_lt_of_cell? _ _ (((HB.out.cell (World.block_lt_of_cell? w _ hw326_1)).trans hw326_1)))).trans (((HB.out.cell (World.block_lt_of_cell? w _ hw326_1)).trans hw326_1))⟩ (fun hHeld => ?_)
                        clear hK K
                        refine norm_ (a' := ?_) ?_ ?_
                        rotate_left
                        · show Act.put _ (some 57) _ = _
                          simp only [Act.put, List.setIfInBounds_toArray, List.set_cons_zero, List.set_cons_succ, i64_w, i32_w]
                          rfl
                        refine one_ (i := 15) (N := some 58) #[true, true, true, true, true, true, true, true, true, true, true, true, true, true, true, true, false, false] rfl rfl (one_of HT_.out (by kernel_rfl)) (by decide) (fun K hK => ?_)
                        refine Kd.R_append_step k29 (w0 := w) w.heap.size (by rfl) (.tmp 52) (.tmp 57) 25 29 (.agg #[(.int .i64 0), (.int .i64 0)]) 16 rfl Try.underlying25 info29 rfl (by decide) (by omega) (.slice A325_0 (rd_L2 x8_1 (ji30)).length c325_0) (rd_L2 x8_1 (ji30)) (⟨(rd_T29 l0 x9_1).f0, (rd_T29 l0 x9_1).f1⟩ : S29) [.int .i64 ((rd_T29 l0 x9_1).f0), .int .i64 ((rd_T29 l0 x9_1).f1)] (fun k_ => oki55 k_ ∨ ((fun _ => True)) k_ ∧ w54.heap.size ≤ k_) (fun _ => False) rfl rfl ?aP (fun _ hk => hk.elim) ?aF ?aO ?aB ?aS ?aL ?_
                        (case aP => exact k29_mkM _ _ _ (⟨(rd_T29 l0 x9_1).f0, (rd_T29 l0 x9_1).f1⟩ : S29))
                        (case aB => exact (by repeat (first | (with_reducible first | exact HB.out | apply below_alloc | apply pw_below_drewN | apply below_drew1 | refine below_set ?_ GE305.out) | exact HB.out)))
                        (case aF => exact (fun k_ hk => .inr ⟨trivial, hk⟩))
                        (case aO => exact (by (with_reducible repeat (first | apply Kd.R_alloc | apply Kd.R_drewN | apply Kd.R_drew)); exact Kd.R_mono UU55.out (fun _ hk => .inl hk)))
                        (case aS => exact (below_size (by repeat (first | (with_reducible first | exact HB.out | apply below_alloc | apply pw_below_drewN | apply below_drew1 | refine below_set ?_ GE305.out) | exact HB.out))))
                        (case aL => have := LMc51.out; omega)
                        intro v328 w56 ho hb hg hat
                        (first | have HS0_ := Go.Proofs.YtdmcffabkeodpaaW.PrintWords.cell_grown hg (hHeld.1) (by first | (rw [add_block]; exact (fun e_ => ((HL325_0.out.1 _ e_.symm).2) rfl)) | (show some (Addr.add _ _).block ≠ _; rw [add_block]; exact (fun e_ => ((HL325_0.out.1 _ e_.symm).2) rfl)) | exact (fun e_ => ((HL325_0.out.1 _ e_.symm).2) rfl)) | have HS0_ := Go.Proofs.YtdmcffabkeodpaaW.PrintWords.cell_grown hg (cell_unalloc (hHeld.1) (by first | (rw [add_block]; exact Kd.S_lt HO_8.out _ rfl) | (show (Addr.add _ _).block < _; rw [add_block]; exact Kd.S_lt HO_8.out _ rfl) | exact Kd.S_lt HO_8.out _ rfl)) (by first | (rw [add_block]; exact (fun e_ => ((HL325_0.out.1 _ e_.symm).2) rfl)) | (show some (Addr.add _ _).block ≠ _; rw [add_block]; exact (fun e_ => ((HL325_0.out.1 _ e_.symm).2) rfl)) | exact (fun e_ => ((HL325_0.out.1 _ e_.symm).2) rfl)))
                        rw [← Ny327.out] at ho
                        have n0_ := Aside0.mk (blk_grown (g := gb305) (o := .cells #[.int .i64 t301, .int .i64 t302, .int .i64 t303] 34 (0, 0)) (by (with_reducible repeat (first | refine blk_drewN ?_ _ | refine blk_drew ?_ | refine blk_alloc ?_ _)); exact BK305.out) hg (Kd.R_ne HL325_0.out BK305.out (by decide)))
                        have n1_ := Aside0.mk (hb)
                        have n2_ := Aside0.mk (Kd.H_grown (Kd.H_widen (by repeat (first | exact HH55.out | refine Kd.H_alloc ?_ _ | refine Kd.H_drewN ?_ _ | refine Kd.H_drew ?_))) hg (fun k_ e_ => .inl (UU55.out.1 k_ e_)))
                        have n3_ := Aside0.mk (ho)
                        clear BK305
                        clear HB
                        clear HH55
                        clear HO_8
                        clear UU55
                        clear HL315_0
                        clear HL325_0
                        have BK305 := n0_
                        have HB := n1_
                        have HH55 := n2_
                        have HO329 := n3_
                        clear n0_ n1_ n2_ n3_
                        clear ho hb hg hat
                        have p52 : 0 ≤ ((ji30) : Int) := of_decide_eq_true (by first | (with_reducible assumption) | assumption)
                        have q52 : ((ji30) : Int) < ((x8_1.length : Int) : Int) := of_decide_eq_true (by first | (with_reducible assumption) | assumption)
                        replace p52 := eq_true p52
                        replace q52 := eq_true q52
                        obtain ⟨Ao59, co59, eo59⟩ := Kd.R_slice HO329.out
                        (first | subst eo59 | (injection eo59 with f1_ f2_ f3_; have f4_ := f1_.symm; have f5_ := f3_.symm; clear f1_ f2_ f3_; subst f4_; subst f5_))
                        obtain ⟨_, _, hraw57, _, _, hcc57, _⟩ := Kd.H_raw HH55.out (of_decide_eq_true (by first | (with_reducible assumption) | assumption)) (by have h_ : ((ji30) : Int) < ((x8_1.length : Int) : Int) := of_decide_eq_true (by first | (with_reducible assumption) | assumption); first | exact h_ | (have e_ := (HN55.out); omega) | simpa using h_)
                        obtain ⟨_, hfr57⟩ := Kd.H_at HH55.out (of_decide_eq_true (by first | (with_reducible assumption) | assumption)) (by have h_ : ((ji30) : Int) < ((x8_1.length : Int) : Int) := of_decide_eq_true (by first | (with_reducible assumption) | assumption); first | exact h_ | (have e_ := (HN55.out); omega) | simpa using h_)
                        have hx57_0 := hcc57 0 _ rfl
                        have hf57_0 := hfr57 0
                        (try simp only [Nat.add_zero] at hx57_0 hf57_0)
                        (try rw [show ((Kd.slice 29 k29)).sz = 1 from rfl, Nat.mul_one] at hx57_0)
                        (try rw [show ((Kd.slice 29 k29)).sz = 1 from rfl, Nat.mul_one] at hf57_0)
                        have HP57 := Kd.S_seg0 HH55.out (of_decide_eq_true (by first | (with_reducible assumption) | assumption)) (by have h_ : ((ji30) : Int) < ((x8_1.length : Int) : Int) := of_decide_eq_true (by first | (with_reducible assumption) | assumption); first | exact h_ | (have e_ := (HN55.out); omega) | simpa using h_) (seg := [.slice Ao59 y327.length co59]) (j := 0) (show 1 ≤ 1 from by decide) (x' := y327) (Kd.M_row HO329.out) (fun _ hk => hk)
                        (try simp only [show ((Kd.slice 29 k29)).sz = 1 from rfl, Nat.mul_one, Nat.add_zero] at HP57)
                        clear hcc57 hfr57
                        have HNB305_go55 := Aside0.mk (show gb305 ≠ go55 from by have h_ := Kd.R_ne hraw57 BK305.out (by decide); intro e_; exact h_ (by rw [e_]; rfl))
                        have HS57 := HP57.1
                        rw [← Ny330.out] at HS57
                        have HQ57 := Aside0.mk HS57
                        obtain ⟨_, hgg57⟩ := Kd.R_typed hraw57 go55 rfl
                        have GG57_ := Aside0.mk hgg57
                        clear HP57 HS57 hgg57
                        refine hK.out _ _ ⟨HS0_, ((HB.out.cell (World.block_lt_of_cell? w _ hw326_0)).trans hw326_0), ((HB.out.cell (World.block_lt_of_cell? w _ hw326_1)).trans hw326_1)⟩ (fun hHeld => ?_)
                        clear hK K
                        refine norm_ (a' := ?_) ?_ ?_
                        rotate_left
                        · show Act.put _ (some 58) _ = _
                          simp only [Act.put, List.setIfInBounds_toArray, List.set_cons_zero, List.set_cons_succ, i64_w, i32_w]
                          rfl
                        refine pure_ (i := 16) (N := some 59) (v := ?_) (a' := ?_) #[true, true, true, true, true, true, true, true, true, true, true, true, true, true, true, true, true, false] rfl rfl (any_of HT_.out (by kernel_rfl)) (fun _ _ _ h => h) (Or.inl ⟨by rfl, ?_⟩) ?_ ?_
                        rotate_left
                        · intro w'
                          go_simp
                          with_reducible rfl
                        rotate_left
                        · simp only [Act.put, List.setIfInBounds_toArray, List.set_cons_zero, List.set_cons_succ, i64_w, i32_w]
                          rfl
                        refine last_ (i := 17) (N := none) #[true, true, true, true, true, true, true, true, true, true, true, true, true, true, true, true, true, true] rfl rfl (one_of HT_.out (by kernel_rfl)) (by decide) (fun K hK => ?_)
                        refine skip_ (w1 := ?_) (by rfl) rfl ?_ ?_
                        rotate_left
                        · go_simp
                          rfl
                        refine hK.out _ _ ?_
                        clear hK K
                        refine done_ (done_of HT_.out (by kernel_rfl)) ?_
                        try go_wp2
                        go_roundg k1
                        case measure => have := HK1.out; omega
                        case rel => exact ⟨(y330), (wrap64 (x9_1 + 1)), (by first | rfl | (simp; done) | (simp [*]; done)), H', ⟨by have := HK1.out; omega⟩, ⟨by (with_reducible repeat (first | apply Kd.S_alloc | apply Kd.S_drewN | apply Kd.S_drew)); exact HQ57.out⟩, ⟨by (with_reducible repeat (first | refine blk_drewN ?_ _ | refine blk_drew ?_ | refine blk_alloc ?_ _)); refine blk_far ?_ HNB305_go55.out _; (with_reducible repeat (first | refine blk_drewN ?_ _ | refine blk_drew ?_ | refine blk_alloc ?_ _)); exact BK305.out⟩, ⟨by repeat (first | (with_reducible first | exact HB.out | apply below_alloc | apply pw_below_drewN | apply below_drew1 | refine below_set ?_ GB55.out | refine below_set ?_ GE305.out) | exact HB.out)⟩⟩
                      · rw [if_neg c51] at H
                        exact absurd H (by simp)
                    · rw [if_neg c50] at H
                      exact absurd H (by simp)
                · rw [if_neg c32] at H
                  exact absurd H (by simp)
              · rw [if_neg c31] at H
                exact absurd H (by simp)
          · rw [if_neg c12] at H
            have c12b0 : decide (x9_1 < (l0.length : Int)) = false := decide_eq_false c12
            clear c12
            simp only [Option.some.injEq, Prod.mk.injEq] at H
            obtain ⟨rfl, rfl⟩ := H
            go_wp2
            go_ret2
            exact ⟨_, by first | rfl | (simp [errW_none, errW_some] <;> rfl) | (simp [*, errW_none, errW_some] <;> rfl), by (with_reducible repeat (first | apply Kd.S_alloc | apply Kd.S_drewN | apply Kd.S_drew)); exact HO_8.out, by repeat (first | (with_reducible first | exact HB.out | apply below_alloc | apply pw_below_drewN | apply below_drew1 | refine below_set ?_ GE305.out) | exact HB.out)⟩
  · rw [if_neg c4] at H
    have c4b0 : (t304 == 0) = false := beq_eq_false_iff_ne.mpr c4
    have c4b1 : (t304 != 0) = true := bne_iff_ne.mpr c4
    simp only [Option.some.injEq, Prod.mk.injEq] at H
    obtain ⟨rfl, rfl⟩ := H
    go_enter Try.func22, Try.ntmps22
    go_wp2_with (first | ((with_reducible refine gate_callee (f := 24) rfl ?_); refine goesL_ (some 12) rfl rfl Try.func24 (by kernel_rfl) rfl #[.slice A0 l0.length c0] rfl (by (try simp only [List.map_toArray, List.map_cons, List.map_nil]); first | done | rfl | (simp only [List.length_drop, List.length_take]; rfl)) ?_; (with_reducible refine (payrollref39_Of.calls k _ _ l0 t301 t302 t303 t304 _ ?side1 ?side2 A3.out).mono ?_); (case side1 => repeat (first | exact HR0.out | (with_reducible refine Kd.C_alloc ?_ _) | (with_reducible refine Kd.C_drewN ?_ _) | (with_reducible refine Kd.C_drew ?_))); (case side2 => exact HC0.out); rintro e w60 ⟨rfl, hb⟩; refine ⟨_, rfl, ?_⟩; have n0_ := Aside0.mk (below_step (by repeat (first | (with_reducible first | exact HB.out | apply below_alloc | apply pw_below_drewN | apply below_drew1) | exact HB.out)) hb); clear HB; have HB := n0_; clear n0_; (try clear hb); (try clear hb2); (try clear hk); (try clear hi)) | ((with_reducible refine gate_dst (N := 6) rfl ?_); (try (refine gate_guard (by rfl) ?_; dsimp only)); refine box_event ?hg (N := 6) ?hd (cs := #[.int .i64 0, .int .i64 0, .int .i64 0]) (t := 34) ?hr ?_; (case hd => rfl); (case hg => rfl); (case hr => first | (go_simp; done) | (go_simp; rfl)); intro gb305 hg w61 hbox hb; have n0_ := Aside0.mk (below_step (by repeat (first | (with_reducible first | exact HB.out | apply below_alloc | apply pw_below_drewN | apply below_drew1) | exact HB.out)) hb); have n1_ := Aside0.mk (hbox); have n2_ := Aside0.mk ((by rw [hg]; exact (below_size (by repeat (first | (with_reducible first | exact HB.out | apply below_alloc | apply pw_below_drewN | apply below_drew1) | exact HB.out))) : w.heap.size ≤ gb305)); have n3_ := Aside0.mk ((by rw [hg]; exact (below_size (by repeat (first | (with_reducible first | exact HB.out | apply below_alloc | apply pw_below_drewN | apply below_drew1) | exact HB.out))) : w.heap.size ≤ gb305)); clear HB; have HB := n0_; have BK305 := n1_; have GW305 := n2_; have GE305 := n3_; clear n0_ n1_ n2_ n3_; clear hb hbox hg; have hcz62_0 : w61.cell? ⟨gb305, 0, none⟩ = some (.int .i64 0) := (blk_cell BK305.out 0).trans rfl; have hcz62_1 : w61.cell? ⟨gb305, 1, none⟩ = some (.int .i64 0) := (blk_cell BK305.out 1).trans rfl; have hcz62_2 : w61.cell? ⟨gb305, 2, none⟩ = some (.int .i64 0) := (blk_cell BK305.out 2).trans rfl; have hfz62_0 := blk_frozen BK305.out 0; have hfz62_1 := blk_frozen BK305.out 1; have hfz62_2 := blk_frozen BK305.out 2))
    go_ret2
    exact ⟨_, by first | rfl | (simp [errW_none, errW_some] <;> rfl) | (simp [*, errW_none, errW_some] <;> rfl), by first | exact Kd.S_nil _ _ _ _ _ | exact Kd.N_nil _ _ _ _ _ | exact Kd.V_nil _ _ _ _ _ | exact Kd.Q_nil _ _ _ _ _ | exact Kd.R_nil _ _ _ _ _, by repeat (first | (with_reducible first | exact HB.out | apply below_alloc | apply pw_below_drewN | apply below_drew1 | refine below_set ?_ GE305.out) | exact HB.out)⟩

end Go.Proofs.Ytdmcffabkeodpaa.Q
