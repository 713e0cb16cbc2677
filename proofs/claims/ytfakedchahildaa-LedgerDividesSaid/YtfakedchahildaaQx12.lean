-- Printed by wip/xprint.py over the translation, with contracts proved by hand among them. Lean checks it.
import Derived.Test.YtfakedchahildaaQx0
import Derived.Test.YtfakedchahildaaQx11
namespace Go.Proofs.Ytfakedchahildaa.Q
open Go.RowKit Go.Proofs.YtfakedchahildaaW.PrintWords Go.Proofs.YtfakedchahildaaW.PrintLast Go.Proofs.YtfakedchahildaaW.PrintMore
attribute [local go_sem] max2_int min2_int max_two min_two max_three min_three max_four min_four   -- for this text's walks alone
set_option linter.unusedVariables false
set_option linter.unusedSimpArgs false

/-! ### payrollref34_Form: function 68 -/
def payrollref34_Form.f (k : Nat) (a0_0 : Int) (a0_1 : ByteArray) (a0_2 : Int) : Option (Bool) := if a0_2 = 0 then (some false) else ((payrollref32_Form.f k a0_0 a0_1 a0_2).bind fun t269 => (some t269))
theorem payrollref34_Form.mono : ∀ a0 a1 a2 k, LeO (payrollref34_Form.f k a0 a1 a2) (payrollref34_Form.f (k + 1) a0 a1 a2) := by
  intro a0 a1 a2 k
  unfold payrollref34_Form.f
  repeat' first
      | (with_reducible exact payrollref32_Form.mono _ _ _ _)
      | (with_reducible exact LeO.refl _)
      | (with_reducible exact LeO.none _)
      | (with_reducible refine LeO.ite ?_ ?_)
      | (with_reducible refine LeO.bind ?_ (fun _ => ?_))
      | exact payrollref32_Form.mono _ _ _ _
      | exact LeO.none _
      | refine LeO.ite ?_ ?_
      | refine LeO.bind ?_ (fun _ => ?_)
set_option maxHeartbeats 8000000 in
set_option maxRecDepth 100000 in
theorem payrollref34_Form.calls (k : Nat) (a0_0 : Int) (a0_1 : ByteArray) (a0_2 : Int) (r : Bool) (w : World) (h : payrollref34_Form.f k a0_0 a0_1 a0_2 = some r) :
    Calls Try.prog 68 #[.agg #[.int .i64 a0_0, .string a0_1, .int .i64 a0_2]] w fun e w' => e = .returned (.bool r) ∧ Below w.heap.size w w' := by
  have hu26 := Try.underlying26
  have HB := Aside0.mk (Below.refl w.heap.size w)
  have H : (if a0_2 = 0 then (some false) else ((payrollref32_Form.f k a0_0 a0_1 a0_2).bind fun t269 => (some t269))) = some r := h
  clear h
  by_cases c2 : a0_2 = 0
  · rw [if_pos c2] at H
    have c2b0 : (a0_2 == 0) = true := beq_iff_eq.mpr c2
    have c2b1 : (a0_2 != 0) = false := bne_eq_false_iff_eq.mpr c2
    clear c2
    obtain rfl := Option.some.inj H
    go_enter Try.func68, Try.ntmps68
    go_wp2_with (first | ((with_reducible refine gate_dst (N := 1) rfl ?_); refine box_event ?hg (N := 1) ?hd (cs := #[.int .i64 a0_0, .string a0_1, .int .i64 a0_2]) (t := 26) ?hr ?_; (case hd => rfl); (case hg => rfl); (case hr => first | (go_simp; done) | (go_simp; rfl)); intro gb268 hg w3 hbox hb; have n0_ := Aside0.mk (below_step (by repeat (first | (with_reducible first | exact HB.out | apply below_alloc | apply pw_below_drewN | apply below_drew1) | exact HB.out)) hb); have n1_ := Aside0.mk (hbox); have n2_ := Aside0.mk ((by rw [hg]; exact (below_size (by repeat (first | (with_reducible first | exact HB.out | apply below_alloc | apply pw_below_drewN | apply below_drew1) | exact HB.out))) : w.heap.size ≤ gb268)); have n3_ := Aside0.mk ((by rw [hg]; exact (below_size (by repeat (first | (with_reducible first | exact HB.out | apply below_alloc | apply pw_below_drewN | apply below_drew1) | exact HB.out))) : w.heap.size ≤ gb268)); clear HB; have HB := n0_; have BK268 := n1_; have GW268 := n2_; have GE268 := n3_; clear n0_ n1_ n2_ n3_; clear hb hbox hg; have hcz4_0 : w3.cell? ⟨gb268, 0, none⟩ = some (.int .i64 a0_0) := (blk_cell BK268.out 0).trans rfl; have hcz4_1 : w3.cell? ⟨gb268, 1, none⟩ = some (.string a0_1) := (blk_cell BK268.out 1).trans rfl; have hcz4_2 : w3.cell? ⟨gb268, 2, none⟩ = some (.int .i64 a0_2) := (blk_cell BK268.out 2).trans rfl; have hfz4_0 := blk_frozen BK268.out 0; have hfz4_1 := blk_frozen BK268.out 1; have hfz4_2 := blk_frozen BK268.out 2))
    go_ret
    exact ⟨by first | rfl | (simp [errW_none, errW_some] <;> rfl) | (simp [*, errW_none, errW_some] <;> rfl), by repeat (first | (with_reducible first | exact HB.out | apply below_alloc | apply pw_below_drewN | apply below_drew1 | refine below_set ?_ GE268.out) | exact HB.out)⟩
  · rw [if_neg c2] at H
    have c2b0 : (a0_2 == 0) = false := beq_eq_false_iff_ne.mpr c2
    have c2b1 : (a0_2 != 0) = true := bne_iff_ne.mpr c2
    replace H := Option.bind_eq_some_iff.mp H
    obtain ⟨t269, A50, H⟩ := H
    replace H : (some t269) = some r := H
    have A5 := Aside0.mk A50
    clear A50
    obtain rfl := Option.some.inj H
    go_enter Try.func68, Try.ntmps68
    go_wp2_with (first | ((with_reducible refine gate_dst (N := 1) rfl ?_); refine box_event ?hg (N := 1) ?hd (cs := #[.int .i64 a0_0, .string a0_1, .int .i64 a0_2]) (t := 26) ?hr ?_; (case hd => rfl); (case hg => rfl); (case hr => first | (go_simp; done) | (go_simp; rfl)); intro gb268 hg w6 hbox hb; have n0_ := Aside0.mk (below_step (by repeat (first | (with_reducible first | exact HB.out | apply below_alloc | apply pw_below_drewN | apply below_drew1) | exact HB.out)) hb); have n1_ := Aside0.mk (hbox); have n2_ := Aside0.mk ((by rw [hg]; exact (below_size (by repeat (first | (with_reducible first | exact HB.out | apply below_alloc | apply pw_below_drewN | apply below_drew1) | exact HB.out))) : w.heap.size ≤ gb268)); have n3_ := Aside0.mk ((by rw [hg]; exact (below_size (by repeat (first | (with_reducible first | exact HB.out | apply below_alloc | apply pw_below_drewN | apply below_drew1) | exact HB.out))) : w.heap.size ≤ gb268)); clear HB; have HB := n0_; have BK268 := n1_; have GW268 := n2_; have GE268 := n3_; clear n0_ n1_ n2_ n3_; clear hb hbox hg; have hcz7_0 : w6.cell? ⟨gb268, 0, none⟩ = some (.int .i64 a0_0) := (blk_cell BK268.out 0).trans rfl; have hcz7_1 : w6.cell? ⟨gb268, 1, none⟩ = some (.string a0_1) := (blk_cell BK268.out 1).trans rfl; have hcz7_2 : w6.cell? ⟨gb268, 2, none⟩ = some (.int .i64 a0_2) := (blk_cell BK268.out 2).trans rfl; have hfz7_0 := blk_frozen BK268.out 0; have hfz7_1 := blk_frozen BK268.out 1; have hfz7_2 := blk_frozen BK268.out 2) | (go_at_call 82; (with_reducible refine (payrollref32_Form.calls k a0_0 a0_1 a0_2 t269 _ A5.out).mono ?_); rintro e w8 ⟨rfl, hb⟩; have n0_ := Aside0.mk (blk_below (g := gb268) (o := .cells #[.int .i64 a0_0, .string a0_1, .int .i64 a0_2] 26 (0, 0)) (by (with_reducible repeat (first | refine blk_drewN ?_ _ | refine blk_drew ?_ | refine blk_alloc ?_ _)); exact BK268.out) hb); have n1_ := Aside0.mk (below_step (by repeat (first | (with_reducible first | exact HB.out | apply below_alloc | apply pw_below_drewN | apply below_drew1 | refine below_set ?_ GE268.out) | exact HB.out)) hb); clear BK268; clear HB; have BK268 := n0_; have HB := n1_; clear n0_ n1_; (try clear hb); (try clear hb2); (try clear hk); (try clear hi)))
    go_ret
    exact ⟨by first | rfl | (simp [errW_none, errW_some] <;> rfl) | (simp [*, errW_none, errW_some] <;> rfl), by repeat (first | (with_reducible first | exact HB.out | apply below_alloc | apply pw_below_drewN | apply below_drew1 | refine below_set ?_ GE268.out) | exact HB.out)⟩

/-! ### payrollref35_Valid: function 56 -/
def payrollref35_Valid.f (k : Nat) (a0_0 : Int) (a0_1 : Int) (a0_2 : Int) (a0_3 : Int) (a0_4 : ByteArray) (a0_5 : Int) : Option (Bool) := if a0_0 ≥ 1 then (if a0_0 ≤ 256 then (if a0_1 ≥ 1 then (if a0_1 ≤ 2147483647 then (if a0_2 ≥ 0 then (if a0_2 ≤ 84005 then ((payrollref34_Form.f k a0_3 a0_4 a0_5).bind fun t271 => (some t271)) else (some false)) else (some false)) else (some false)) else (some false)) else (some false)) else (some false)
theorem payrollref35_Valid.mono : ∀ a0 a1 a2 a3 a4 a5 k, LeO (payrollref35_Valid.f k a0 a1 a2 a3 a4 a5) (payrollref35_Valid.f (k + 1) a0 a1 a2 a3 a4 a5) := by
  intro a0 a1 a2 a3 a4 a5 k
  unfold payrollref35_Valid.f
  repeat' first
      | (with_reducible exact payrollref34_Form.mono _ _ _ _)
      | (with_reducible exact LeO.refl _)
      | (with_reducible exact LeO.none _)
      | (with_reducible refine LeO.ite ?_ ?_)
      | (with_reducible refine LeO.bind ?_ (fun _ => ?_))
      | exact payrollref34_Form.mono _ _ _ _
      | exact LeO.none _
      | refine LeO.ite ?_ ?_
      | refine LeO.bind ?_ (fun _ => ?_)
set_option maxHeartbeats 8000000 in
set_option maxRecDepth 100000 in
theorem payrollref35_Valid.calls (k : Nat) (a0_0 : Int) (a0_1 : Int) (a0_2 : Int) (a0_3 : Int) (a0_4 : ByteArray) (a0_5 : Int) (r : Bool) (w : World) (h : payrollref35_Valid.f k a0_0 a0_1 a0_2 a0_3 a0_4 a0_5 = some r) :
    Calls Try.prog 56 #[.agg #[.int .i64 a0_0, .int .i64 a0_1, .int .i64 a0_2, .int .i64 a0_3, .string a0_4, .int .i64 a0_5]] w fun e w' => e = .returned (.bool r) ∧ Below w.heap.size w w' := by
  have hu28 := Try.underlying28
  have hu26 := Try.underlying26
  have HB := Aside0.mk (Below.refl w.heap.size w)
  have H : (if a0_0 ≥ 1 then (if a0_0 ≤ 256 then (if a0_1 ≥ 1 then (if a0_1 ≤ 2147483647 then (if a0_2 ≥ 0 then (if a0_2 ≤ 84005 then ((payrollref34_Form.f k a0_3 a0_4 a0_5).bind fun t271 => (some t271)) else (some false)) else (some false)) else (some false)) else (some false)) else (some false)) else (some false)) = some r := h
  clear h
  by_cases c2 : a0_0 ≥ 1
  · rw [if_pos c2] at H
    have c2b0 : decide (1 ≤ a0_0) = true := decide_eq_true c2
    clear c2
    by_cases c3 : a0_0 ≤ 256
    · rw [if_pos c3] at H
      have c3b0 : decide (a0_0 ≤ 256) = true := decide_eq_true c3
      clear c3
      by_cases c4 : a0_1 ≥ 1
      · rw [if_pos c4] at H
        have c4b0 : decide (1 ≤ a0_1) = true := decide_eq_true c4
        clear c4
        by_cases c5 : a0_1 ≤ 2147483647
        · rw [if_pos c5] at H
          have c5b0 : decide (a0_1 ≤ 2147483647) = true := decide_eq_true c5
          clear c5
          by_cases c6 : a0_2 ≥ 0
          · rw [if_pos c6] at H
            have c6b0 : decide (0 ≤ a0_2) = true := decide_eq_true c6
            clear c6
            by_cases c7 : a0_2 ≤ 84005
            · rw [if_pos c7] at H
              have c7b0 : decide (a0_2 ≤ 84005) = true := decide_eq_true c7
              clear c7
              replace H := Option.bind_eq_some_iff.mp H
              obtain ⟨t271, A80, H⟩ := H
              replace H : (some t271) = some r := H
              have A8 := Aside0.mk A80
              clear A80
              obtain rfl := Option.some.inj H
              go_enter Try.func56, Try.ntmps56
              go_wp2_with (first | ((with_reducible refine gate_dst (N := 1) rfl ?_); refine box_event ?hg (N := 1) ?hd (cs := #[.int .i64 a0_0, .int .i64 a0_1, .int .i64 a0_2, .int .i64 a0_3, .string a0_4, .int .i64 a0_5]) (t := 28) ?hr ?_; (case hd => rfl); (case hg => rfl); (case hr => first | (go_simp; done) | (go_simp; rfl)); intro gb270 hg w9 hbox hb; have n0_ := Aside0.mk (below_step (by repeat (first | (with_reducible first | exact HB.out | apply below_alloc | apply pw_below_drewN | apply below_drew1) | exact HB.out)) hb); have n1_ := Aside0.mk (hbox); have n2_ := Aside0.mk ((by rw [hg]; exact (below_size (by repeat (first | (with_reducible first | exact HB.out | apply below_alloc | apply pw_below_drewN | apply below_drew1) | exact HB.out))) : w.heap.size ≤ gb270)); have n3_ := Aside0.mk ((by rw [hg]; exact (below_size (by repeat (first | (with_reducible first | exact HB.out | apply below_alloc | apply pw_below_drewN | apply below_drew1) | exact HB.out))) : w.heap.size ≤ gb270)); clear HB; have HB := n0_; have BK270 := n1_; have GW270 := n2_; have GE270 := n3_; clear n0_ n1_ n2_ n3_; clear hb hbox hg; have hcz10_0 : w9.cell? ⟨gb270, 0, none⟩ = some (.int .i64 a0_0) := (blk_cell BK270.out 0).trans rfl; have hcz10_1 : w9.cell? ⟨gb270, 1, none⟩ = some (.int .i64 a0_1) := (blk_cell BK270.out 1).trans rfl; have hcz10_2 : w9.cell? ⟨gb270, 2, none⟩ = some (.int .i64 a0_2) := (blk_cell BK270.out 2).trans rfl; have hcz10_3 : w9.cell? ⟨gb270, 3, none⟩ = some (.int .i64 a0_3) := (blk_cell BK270.out 3).trans rfl; have hcz10_4 : w9.cell? ⟨gb270, 4, none⟩ = some (.string a0_4) := (blk_cell BK270.out 4).trans rfl; have hcz10_5 : w9.cell? ⟨gb270, 5, none⟩ = some (.int .i64 a0_5) := (blk_cell BK270.out 5).trans rfl; have hfz10_0 := blk_frozen BK270.out 0; have hfz10_1 := blk_frozen BK270.out 1; have hfz10_2 := blk_frozen BK270.out 2; have hfz10_3 := blk_frozen BK270.out 3; have hfz10_4 := blk_frozen BK270.out 4; have hfz10_5 := blk_frozen BK270.out 5) | (go_at_call 68; (with_reducible refine (payrollref34_Form.calls k a0_3 a0_4 a0_5 t271 _ A8.out).mono ?_); rintro e w11 ⟨rfl, hb⟩; have n0_ := Aside0.mk (blk_below (g := gb270) (o := .cells #[.int .i64 a0_0, .int .i64 a0_1, .int .i64 a0_2, .int .i64 a0_3, .string a0_4, .int .i64 a0_5] 28 (0, 0)) (by (with_reducible repeat (first | refine blk_drewN ?_ _ | refine blk_drew ?_ | refine blk_alloc ?_ _)); exact BK270.out) hb); have n1_ := Aside0.mk (below_step (by repeat (first | (with_reducible first | exact HB.out | apply below_alloc | apply pw_below_drewN | apply below_drew1 | refine below_set ?_ GE270.out) | exact HB.out)) hb); clear BK270; clear HB; have BK270 := n0_; have HB := n1_; clear n0_ n1_; (try clear hb); (try clear hb2); (try clear hk); (try clear hi)))
              go_ret
              exact ⟨by first | rfl | (simp [errW_none, errW_some] <;> rfl) | (simp [*, errW_none, errW_some] <;> rfl), by repeat (first | (with_reducible first | exact HB.out | apply below_alloc | apply pw_below_drewN | apply below_drew1 | refine below_set ?_ GE270.out) | exact HB.out)⟩
            · rw [if_neg c7] at H
              have c7b0 : decide (a0_2 ≤ 84005) = false := decide_eq_false c7
              clear c7
              obtain rfl := Option.some.inj H
              go_enter Try.func56, Try.ntmps56
              go_wp2_with (first | ((with_reducible refine gate_dst (N := 1) rfl ?_); refine box_event ?hg (N := 1) ?hd (cs := #[.int .i64 a0_0, .int .i64 a0_1, .int .i64 a0_2, .int .i64 a0_3, .string a0_4, .int .i64 a0_5]) (t := 28) ?hr ?_; (case hd => rfl); (case hg => rfl); (case hr => first | (go_simp; done) | (go_simp; rfl)); intro gb270 hg w12 hbox hb; have n0_ := Aside0.mk (below_step (by repeat (first | (with_reducible first | exact HB.out | apply below_alloc | apply pw_below_drewN | apply below_drew1) | exact HB.out)) hb); have n1_ := Aside0.mk (hbox); have n2_ := Aside0.mk ((by rw [hg]; exact (below_size (by repeat (first | (with_reducible first | exact HB.out | apply below_alloc | apply pw_below_drewN | apply below_drew1) | exact HB.out))) : w.heap.size ≤ gb270)); have n3_ := Aside0.mk ((by rw [hg]; exact (below_size (by repeat (first | (with_reducible first | exact HB.out | apply below_alloc | apply pw_below_drewN | apply below_drew1) | exact HB.out))) : w.heap.size ≤ gb270)); clear HB; have HB := n0_; have BK270 := n1_; have GW270 := n2_; have GE270 := n3_; clear n0_ n1_ n2_ n3_; clear hb hbox hg; have hcz13_0 : w12.cell? ⟨gb270, 0, none⟩ = some (.int .i64 a0_0) := (blk_cell BK270.out 0).trans rfl; have hcz13_1 : w12.cell? ⟨gb270, 1, none⟩ = some (.int .i64 a0_1) := (blk_cell BK270.out 1).trans rfl; have hcz13_2 : w12.cell? ⟨gb270, 2, none⟩ = some (.int .i64 a0_2) := (blk_cell BK270.out 2).trans rfl; have hcz13_3 : w12.cell? ⟨gb270, 3, none⟩ = some (.int .i64 a0_3) := (blk_cell BK270.out 3).trans rfl; have hcz13_4 : w12.cell? ⟨gb270, 4, none⟩ = some (.string a0_4) := (blk_cell BK270.out 4).trans rfl; have hcz13_5 : w12.cell? ⟨gb270, 5, none⟩ = some (.int .i64 a0_5) := (blk_cell BK270.out 5).trans rfl; have hfz13_0 := blk_frozen BK270.out 0; have hfz13_1 := blk_frozen BK270.out 1; have hfz13_2 := blk_frozen BK270.out 2; have hfz13_3 := blk_frozen BK270.out 3; have hfz13_4 := blk_frozen BK270.out 4; have hfz13_5 := blk_frozen BK270.out 5))
              go_ret
              exact ⟨by first | rfl | (simp [errW_none, errW_some] <;> rfl) | (simp [*, errW_none, errW_some] <;> rfl), by repeat (first | (with_reducible first | exact HB.out | apply below_alloc | apply pw_below_drewN | apply below_drew1 | refine below_set ?_ GE270.out) | exact HB.out)⟩
          · rw [if_neg c6] at H
            have c6b0 : decide (0 ≤ a0_2) = false := decide_eq_false c6
            clear c6
            obtain rfl := Option.some.inj H
            go_enter Try.func56, Try.ntmps56
            go_wp2_with (first | ((with_reducible refine gate_dst (N := 1) rfl ?_); refine box_event ?hg (N := 1) ?hd (cs := #[.int .i64 a0_0, .int .i64 a0_1, .int .i64 a0_2, .int .i64 a0_3, .string a0_4, .int .i64 a0_5]) (t := 28) ?hr ?_; (case hd => rfl); (case hg => rfl); (case hr => first | (go_simp; done) | (go_simp; rfl)); intro gb270 hg w14 hbox hb; have n0_ := Aside0.mk (below_step (by repeat (first | (with_reducible first | exact HB.out | apply below_alloc | apply pw_below_drewN | apply below_drew1) | exact HB.out)) hb); have n1_ := Aside0.mk (hbox); have n2_ := Aside0.mk ((by rw [hg]; exact (below_size (by repeat (first | (with_reducible first | exact HB.out | apply below_alloc | apply pw_below_drewN | apply below_drew1) | exact HB.out))) : w.heap.size ≤ gb270)); have n3_ := Aside0.mk ((by rw [hg]; exact (below_size (by repeat (first | (with_reducible first | exact HB.out | apply below_alloc | apply pw_below_drewN | apply below_drew1) | exact HB.out))) : w.heap.size ≤ gb270)); clear HB; have HB := n0_; have BK270 := n1_; have GW270 := n2_; have GE270 := n3_; clear n0_ n1_ n2_ n3_; clear hb hbox hg; have hcz15_0 : w14.cell? ⟨gb270, 0, none⟩ = some (.int .i64 a0_0) := (blk_cell BK270.out 0).trans rfl; have hcz15_1 : w14.cell? ⟨gb270, 1, none⟩ = some (.int .i64 a0_1) := (blk_cell BK270.out 1).trans rfl; have hcz15_2 : w14.cell? ⟨gb270, 2, none⟩ = some (.int .i64 a0_2) := (blk_cell BK270.out 2).trans rfl; have hcz15_3 : w14.cell? ⟨gb270, 3, none⟩ = some (.int .i64 a0_3) := (blk_cell BK270.out 3).trans rfl; have hcz15_4 : w14.cell? ⟨gb270, 4, none⟩ = some (.string a0_4) := (blk_cell BK270.out 4).trans rfl; have hcz15_5 : w14.cell? ⟨gb270, 5, none⟩ = some (.int .i64 a0_5) := (blk_cell BK270.out 5).trans rfl; have hfz15_0 := blk_frozen BK270.out 0; have hfz15_1 := blk_frozen BK270.out 1; have hfz15_2 := blk_frozen BK270.out 2; have hfz15_3 := blk_frozen BK270.out 3; have hfz15_4 := blk_frozen BK270.out 4; have hfz15_5 := blk_frozen BK270.out 5))
            go_ret
            exact ⟨by first | rfl | (simp [errW_none, errW_some] <;> rfl) | (simp [*, errW_none, errW_some] <;> rfl), by repeat (first | (with_reducible first | exact HB.out | apply below_alloc | apply pw_below_drewN | apply below_drew1 | refine below_set ?_ GE270.out) | exact HB.out)⟩
        · rw [if_neg c5] at H
          have c5b0 : decide (a0_1 ≤ 2147483647) = false := decide_eq_false c5
          clear c5
          obtain rfl := Option.some.inj H
          go_enter Try.func56, Try.ntmps56
          go_wp2_with (first | ((with_reducible refine gate_dst (N := 1) rfl ?_); refine box_event ?hg (N := 1) ?hd (cs := #[.int .i64 a0_0, .int .i64 a0_1, .int .i64 a0_2, .int .i64 a0_3, .string a0_4, .int .i64 a0_5]) (t := 28) ?hr ?_; (case hd => rfl); (case hg => rfl); (case hr => first | (go_simp; done) | (go_simp; rfl)); intro gb270 hg w16 hbox hb; have n0_ := Aside0.mk (below_step (by repeat (first | (with_reducible first | exact HB.out | apply below_alloc | apply pw_below_drewN | apply below_drew1) | exact HB.out)) hb); have n1_ := Aside0.mk (hbox); have n2_ := Aside0.mk ((by rw [hg]; exact (below_size (by repeat (first | (with_reducible first | exact HB.out | apply below_alloc | apply pw_below_drewN | apply below_drew1) | exact HB.out))) : w.heap.size ≤ gb270)); have n3_ := Aside0.mk ((by rw [hg]; exact (below_size (by repeat (first | (with_reducible first | exact HB.out | apply below_alloc | apply pw_below_drewN | apply below_drew1) | exact HB.out))) : w.heap.size ≤ gb270)); clear HB; have HB := n0_; have BK270 := n1_; have GW270 := n2_; have GE270 := n3_; clear n0_ n1_ n2_ n3_; clear hb hbox hg; have hcz17_0 : w16.cell? ⟨gb270, 0, none⟩ = some (.int .i64 a0_0) := (blk_cell BK270.out 0).trans rfl; have hcz17_1 : w16.cell? ⟨gb270, 1, none⟩ = some (.int .i64 a0_1) := (blk_cell BK270.out 1).trans rfl; have hcz17_2 : w16.cell? ⟨gb270, 2, none⟩ = some (.int .i64 a0_2) := (blk_cell BK270.out 2).trans rfl; have hcz17_3 : w16.cell? ⟨gb270, 3, none⟩ = some (.int .i64 a0_3) := (blk_cell BK270.out 3).trans rfl; have hcz17_4 : w16.cell? ⟨gb270, 4, none⟩ = some (.string a0_4) := (blk_cell BK270.out 4).trans rfl; have hcz17_5 : w16.cell? ⟨gb270, 5, none⟩ = some (.int .i64 a0_5) := (blk_cell BK270.out 5).trans rfl; have hfz17_0 := blk_frozen BK270.out 0; have hfz17_1 := blk_frozen BK270.out 1; have hfz17_2 := blk_frozen BK270.out 2; have hfz17_3 := blk_frozen BK270.out 3; have hfz17_4 := blk_frozen BK270.out 4; have hfz17_5 := blk_frozen BK270.out 5))
          go_ret
          exact ⟨by first | rfl | (simp [errW_none, errW_some] <;> rfl) | (simp [*, errW_none, errW_some] <;> rfl), by repeat (first | (with_reducible first | exact HB.out | apply below_alloc | apply pw_below_drewN | apply below_drew1 | refine below_set ?_ GE270.out) | exact HB.out)⟩
      · rw [if_neg c4] at H
        have c4b0 : decide (1 ≤ a0_1) = false := decide_eq_false c4
        clear c4
        obtain rfl := Option.some.inj H
        go_enter Try.func56, Try.ntmps56
        go_wp2_with (first | ((with_reducible refine gate_dst (N := 1) rfl ?_); refine box_event ?hg (N := 1) ?hd (cs := #[.int .i64 a0_0, .int .i64 a0_1, .int .i64 a0_2, .int .i64 a0_3, .string a0_4, .int .i64 a0_5]) (t := 28) ?hr ?_; (case hd => rfl); (case hg => rfl); (case hr => first | (go_simp; done) | (go_simp; rfl)); intro gb270 hg w18 hbox hb; have n0_ := Aside0.mk (below_step (by repeat (first | (with_reducible first | exact HB.out | apply below_alloc | apply pw_below_drewN | apply below_drew1) | exact HB.out)) hb); have n1_ := Aside0.mk (hbox); have n2_ := Aside0.mk ((by rw [hg]; exact (below_size (by repeat (first | (with_reducible first | exact HB.out | apply below_alloc | apply pw_below_drewN | apply below_drew1) | exact HB.out))) : w.heap.size ≤ gb270)); have n3_ := Aside0.mk ((by rw [hg]; exact (below_size (by repeat (first | (with_reducible first | exact HB.out | apply below_alloc | apply pw_below_drewN | apply below_drew1) | exact HB.out))) : w.heap.size ≤ gb270)); clear HB; have HB := n0_; have BK270 := n1_; have GW270 := n2_; have GE270 := n3_; clear n0_ n1_ n2_ n3_; clear hb hbox hg; have hcz19_0 : w18.cell? ⟨gb270, 0, none⟩ = some (.int .i64 a0_0) := (blk_cell BK270.out 0).trans rfl; have hcz19_1 : w18.cell? ⟨gb270, 1, none⟩ = some (.int .i64 a0_1) := (blk_cell BK270.out 1).trans rfl; have hcz19_2 : w18.cell? ⟨gb270, 2, none⟩ = some (.int .i64 a0_2) := (blk_cell BK270.out 2).trans rfl; have hcz19_3 : w18.cell? ⟨gb270, 3, none⟩ = some (.int .i64 a0_3) := (blk_cell BK270.out 3).trans rfl; have hcz19_4 : w18.cell? ⟨gb270, 4, none⟩ = some (.string a0_4) := (blk_cell BK270.out 4).trans rfl; have hcz19_5 : w18.cell? ⟨gb270, 5, none⟩ = some (.int .i64 a0_5) := (blk_cell BK270.out 5).trans rfl; have hfz19_0 := blk_frozen BK270.out 0; have hfz19_1 := blk_frozen BK270.out 1; have hfz19_2 := blk_frozen BK270.out 2; have hfz19_3 := blk_frozen BK270.out 3; have hfz19_4 := blk_frozen BK270.out 4; have hfz19_5 := blk_frozen BK270.out 5))
        go_ret
        exact ⟨by first | rfl | (simp [errW_none, errW_some] <;> rfl) | (simp [*, errW_none, errW_some] <;> rfl), by repeat (first | (with_reducible first | exact HB.out | apply below_alloc | apply pw_below_drewN | apply below_drew1 | refine below_set ?_ GE270.out) | exact HB.out)⟩
    · rw [if_neg c3] at H
      have c3b0 : decide (a0_0 ≤ 256) = false := decide_eq_false c3
      clear c3
      obtain rfl := Option.some.inj H
      go_enter Try.func56, Try.ntmps56
      go_wp2_with (first | ((with_reducible refine gate_dst (N := 1) rfl ?_); refine box_event ?hg (N := 1) ?hd (cs := #[.int .i64 a0_0, .int .i64 a0_1, .int .i64 a0_2, .int .i64 a0_3, .string a0_4, .int .i64 a0_5]) (t := 28) ?hr ?_; (case hd => rfl); (case hg => rfl); (case hr => first | (go_simp; done) | (go_simp; rfl)); intro gb270 hg w20 hbox hb; have n0_ := Aside0.mk (below_step (by repeat (first | (with_reducible first | exact HB.out | apply below_alloc | apply pw_below_drewN | apply below_drew1) | exact HB.out)) hb); have n1_ := Aside0.mk (hbox); have n2_ := Aside0.mk ((by rw [hg]; exact (below_size (by repeat (first | (with_reducible first | exact HB.out | apply below_alloc | apply pw_below_drewN | apply below_drew1) | exact HB.out))) : w.heap.size ≤ gb270)); have n3_ := Aside0.mk ((by rw [hg]; exact (below_size (by repeat (first | (with_reducible first | exact HB.out | apply below_alloc | apply pw_below_drewN | apply below_drew1) | exact HB.out))) : w.heap.size ≤ gb270)); clear HB; have HB := n0_; have BK270 := n1_; have GW270 := n2_; have GE270 := n3_; clear n0_ n1_ n2_ n3_; clear hb hbox hg; have hcz21_0 : w20.cell? ⟨gb270, 0, none⟩ = some (.int .i64 a0_0) := (blk_cell BK270.out 0).trans rfl; have hcz21_1 : w20.cell? ⟨gb270, 1, none⟩ = some (.int .i64 a0_1) := (blk_cell BK270.out 1).trans rfl; have hcz21_2 : w20.cell? ⟨gb270, 2, none⟩ = some (.int .i64 a0_2) := (blk_cell BK270.out 2).trans rfl; have hcz21_3 : w20.cell? ⟨gb270, 3, none⟩ = some (.int .i64 a0_3) := (blk_cell BK270.out 3).trans rfl; have hcz21_4 : w20.cell? ⟨gb270, 4, none⟩ = some (.string a0_4) := (blk_cell BK270.out 4).trans rfl; have hcz21_5 : w20.cell? ⟨gb270, 5, none⟩ = some (.int .i64 a0_5) := (blk_cell BK270.out 5).trans rfl; have hfz21_0 := blk_frozen BK270.out 0; have hfz21_1 := blk_frozen BK270.out 1; have hfz21_2 := blk_frozen BK270.out 2; have hfz21_3 := blk_frozen BK270.out 3; have hfz21_4 := blk_frozen BK270.out 4; have hfz21_5 := blk_frozen BK270.out 5))
      go_ret
      exact ⟨by first | rfl | (simp [errW_none, errW_some] <;> rfl) | (simp [*, errW_none, errW_some] <;> rfl), by repeat (first | (with_reducible first | exact HB.out | apply below_alloc | apply pw_below_drewN | apply below_drew1 | refine below_set ?_ GE270.out) | exact HB.out)⟩
  · rw [if_neg c2] at H
    have c2b0 : decide (1 ≤ a0_0) = false := decide_eq_false c2
    clear c2
    obtain rfl := Option.some.inj H
    go_enter Try.func56, Try.ntmps56
    go_wp2_with (first | ((with_reducible refine gate_dst (N := 1) rfl ?_); refine box_event ?hg (N := 1) ?hd (cs := #[.int .i64 a0_0, .int .i64 a0_1, .int .i64 a0_2, .int .i64 a0_3, .string a0_4, .int .i64 a0_5]) (t := 28) ?hr ?_; (case hd => rfl); (case hg => rfl); (case hr => first | (go_simp; done) | (go_simp; rfl)); intro gb270 hg w22 hbox hb; have n0_ := Aside0.mk (below_step (by repeat (first | (with_reducible first | exact HB.out | apply below_alloc | apply pw_below_drewN | apply below_drew1) | exact HB.out)) hb); have n1_ := Aside0.mk (hbox); have n2_ := Aside0.mk ((by rw [hg]; exact (below_size (by repeat (first | (with_reducible first | exact HB.out | apply below_alloc | apply pw_below_drewN | apply below_drew1) | exact HB.out))) : w.heap.size ≤ gb270)); have n3_ := Aside0.mk ((by rw [hg]; exact (below_size (by repeat (first | (with_reducible first | exact HB.out | apply below_alloc | apply pw_below_drewN | apply below_drew1) | exact HB.out))) : w.heap.size ≤ gb270)); clear HB; have HB := n0_; have BK270 := n1_; have GW270 := n2_; have GE270 := n3_; clear n0_ n1_ n2_ n3_; clear hb hbox hg; have hcz23_0 : w22.cell? ⟨gb270, 0, none⟩ = some (.int .i64 a0_0) := (blk_cell BK270.out 0).trans rfl; have hcz23_1 : w22.cell? ⟨gb270, 1, none⟩ = some (.int .i64 a0_1) := (blk_cell BK270.out 1).trans rfl; have hcz23_2 : w22.cell? ⟨gb270, 2, none⟩ = some (.int .i64 a0_2) := (blk_cell BK270.out 2).trans rfl; have hcz23_3 : w22.cell? ⟨gb270, 3, none⟩ = some (.int .i64 a0_3) := (blk_cell BK270.out 3).trans rfl; have hcz23_4 : w22.cell? ⟨gb270, 4, none⟩ = some (.string a0_4) := (blk_cell BK270.out 4).trans rfl; have hcz23_5 : w22.cell? ⟨gb270, 5, none⟩ = some (.int .i64 a0_5) := (blk_cell BK270.out 5).trans rfl; have hfz23_0 := blk_frozen BK270.out 0; have hfz23_1 := blk_frozen BK270.out 1; have hfz23_2 := blk_frozen BK270.out 2; have hfz23_3 := blk_frozen BK270.out 3; have hfz23_4 := blk_frozen BK270.out 4; have hfz23_5 := blk_frozen BK270.out 5))
    go_ret
    exact ⟨by first | rfl | (simp [errW_none, errW_some] <;> rfl) | (simp [*, errW_none, errW_some] <;> rfl), by repeat (first | (with_reducible first | exact HB.out | apply below_alloc | apply pw_below_drewN | apply below_drew1 | refine below_set ?_ GE270.out) | exact HB.out)⟩

end Go.Proofs.Ytfakedchahildaa.Q
