-- Printed by wip/xprint.py over the translation, with contracts proved by hand among them. Lean checks it.
import Derived.Test.YtdlljjglmcpniaaQx0
import Derived.Test.YtdlljjglmcpniaaQx3
namespace Go.Proofs.Ytdlljjglmcpniaa.Q
open Go.RowKit Go.Proofs.YtdlljjglmcpniaaW.PrintWords Go.Proofs.YtdlljjglmcpniaaW.PrintLast Go.Proofs.YtdlljjglmcpniaaW.PrintMore
attribute [local go_sem] max2_int min2_int max_two min_two max_three min_three max_four min_four   -- for this text's walks alone
set_option linter.unusedVariables false
set_option linter.unusedSimpArgs false

/-! ### payslip_Form: function 58 -/
def payslip_Form.f (k : Nat) (a0_0 : Int) (a0_1 : ByteArray) (a0_2 : Int) : Option (Bool) := (payslip_form.f k a0_0 a0_1 a0_2).bind fun t444 => (if t444 = true then (some (a0_2 != 0)) else (some false))
theorem payslip_Form.mono : ∀ a0 a1 a2 k, LeO (payslip_Form.f k a0 a1 a2) (payslip_Form.f (k + 1) a0 a1 a2) := by
  intro a0 a1 a2 k
  unfold payslip_Form.f
  repeat' first
      | (with_reducible exact payslip_form.mono _ _ _ _)
      | (with_reducible exact LeO.refl _)
      | (with_reducible exact LeO.none _)
      | (with_reducible refine LeO.ite ?_ ?_)
      | (with_reducible refine LeO.bind ?_ (fun _ => ?_))
      | exact payslip_form.mono _ _ _ _
      | exact LeO.none _
      | refine LeO.ite ?_ ?_
      | refine LeO.bind ?_ (fun _ => ?_)
set_option maxHeartbeats 8000000 in
set_option maxRecDepth 100000 in
theorem payslip_Form.calls (k : Nat) (a0_0 : Int) (a0_1 : ByteArray) (a0_2 : Int) (r : Bool) (w : World) (h : payslip_Form.f k a0_0 a0_1 a0_2 = some r) :
    Calls Try.prog 58 #[.agg #[.int .i64 a0_0, .string a0_1, .int .i64 a0_2]] w fun e w' => e = .returned (.bool r) ∧ Below w.heap.size w w' := by
  have hu56 := Try.underlying56
  have HB := Aside0.mk (Below.refl w.heap.size w)
  have H : ((payslip_form.f k a0_0 a0_1 a0_2).bind fun t444 => (if t444 = true then (some (a0_2 != 0)) else (some false))) = some r := h
  clear h
  replace H := Option.bind_eq_some_iff.mp H
  obtain ⟨t444, A20, H⟩ := H
  replace H : (if t444 = true then (some (a0_2 != 0)) else (some false)) = some r := H
  have A2 := Aside0.mk A20
  clear A20
  by_cases c3 : t444 = true
  · subst c3
    have H1 : (some (a0_2 != 0)) = some r := by rw [if_pos rfl] at H; exact H
    clear H
    have H := H1
    clear H1
    obtain rfl := Option.some.inj H
    go_enter Try.func58, Try.ntmps58
    go_wp2_with (first | ((with_reducible refine gate_dst (N := 1) rfl ?_); refine box_event ?hg (N := 1) ?hd (cs := #[.int .i64 a0_0, .string a0_1, .int .i64 a0_2]) (t := 56) ?hr ?_; (case hd => rfl); (case hg => rfl); (case hr => first | (go_simp; done) | (go_simp; rfl)); intro gb443 hg w4 hbox hb; have n0_ := Aside0.mk (below_step (by repeat (first | (with_reducible first | exact HB.out | apply below_alloc | apply pw_below_drewN | apply below_drew1) | exact HB.out)) hb); have n1_ := Aside0.mk (hbox); have n2_ := Aside0.mk ((by rw [hg]; exact (below_size (by repeat (first | (with_reducible first | exact HB.out | apply below_alloc | apply pw_below_drewN | apply below_drew1) | exact HB.out))) : w.heap.size ≤ gb443)); have n3_ := Aside0.mk ((by rw [hg]; exact (below_size (by repeat (first | (with_reducible first | exact HB.out | apply below_alloc | apply pw_below_drewN | apply below_drew1) | exact HB.out))) : w.heap.size ≤ gb443)); clear HB; have HB := n0_; have BK443 := n1_; have GW443 := n2_; have GE443 := n3_; clear n0_ n1_ n2_ n3_; clear hb hbox hg; have hcz5_0 : w4.cell? ⟨gb443, 0, none⟩ = some (.int .i64 a0_0) := (blk_cell BK443.out 0).trans rfl; have hcz5_1 : w4.cell? ⟨gb443, 1, none⟩ = some (.string a0_1) := (blk_cell BK443.out 1).trans rfl; have hcz5_2 : w4.cell? ⟨gb443, 2, none⟩ = some (.int .i64 a0_2) := (blk_cell BK443.out 2).trans rfl; have hfz5_0 := blk_frozen BK443.out 0; have hfz5_1 := blk_frozen BK443.out 1; have hfz5_2 := blk_frozen BK443.out 2) | ((with_reducible refine gate_callee (f := 60) rfl ?_); refine goesL_ (some 4) rfl rfl Try.func60 (by kernel_rfl) rfl #[.agg #[.int .i64 a0_0, .string a0_1, .int .i64 a0_2]] rfl (by (try simp only [List.map_toArray, List.map_cons, List.map_nil]); first | done | rfl | (simp only [List.length_drop, List.length_take]; rfl)) ?_; (with_reducible refine (payslip_form.calls k a0_0 a0_1 a0_2 true _ A2.out).mono ?_); rintro e w6 ⟨rfl, hb⟩; refine ⟨_, rfl, ?_⟩; have n0_ := Aside0.mk (blk_below (g := gb443) (o := .cells #[.int .i64 a0_0, .string a0_1, .int .i64 a0_2] 56 (0, 0)) (by (with_reducible repeat (first | refine blk_drewN ?_ _ | refine blk_drew ?_ | refine blk_alloc ?_ _)); exact BK443.out) hb); have n1_ := Aside0.mk (below_step (by repeat (first | (with_reducible first | exact HB.out | apply below_alloc | apply pw_below_drewN | apply below_drew1 | refine below_set ?_ GE443.out) | exact HB.out)) hb); clear BK443; clear HB; have BK443 := n0_; have HB := n1_; clear n0_ n1_; (try clear hb); (try clear hb2); (try clear hk); (try clear hi); have hcz7_0 : w6.cell? ⟨gb443, 0, none⟩ = some (.int .i64 a0_0) := (blk_cell BK443.out 0).trans rfl; have hcz7_1 : w6.cell? ⟨gb443, 1, none⟩ = some (.string a0_1) := (blk_cell BK443.out 1).trans rfl; have hcz7_2 : w6.cell? ⟨gb443, 2, none⟩ = some (.int .i64 a0_2) := (blk_cell BK443.out 2).trans rfl; have hfz7_0 := blk_frozen BK443.out 0; have hfz7_1 := blk_frozen BK443.out 1; have hfz7_2 := blk_frozen BK443.out 2))
    go_ret
    exact ⟨by first | rfl | (simp [errW_none, errW_some] <;> rfl) | (simp [*, errW_none, errW_some] <;> rfl), by repeat (first | (with_reducible first | exact HB.out | apply below_alloc | apply pw_below_drewN | apply below_drew1 | refine below_set ?_ GE443.out) | exact HB.out)⟩
  · replace c3 := Bool.eq_false_iff.mpr c3
    subst c3
    have H1 : (some false) = some r := by rw [if_neg (show ¬ (false = true) by decide)] at H; exact H
    clear H
    have H := H1
    clear H1
    obtain rfl := Option.some.inj H
    go_enter Try.func58, Try.ntmps58
    go_wp2_with (first | ((with_reducible refine gate_dst (N := 1) rfl ?_); refine box_event ?hg (N := 1) ?hd (cs := #[.int .i64 a0_0, .string a0_1, .int .i64 a0_2]) (t := 56) ?hr ?_; (case hd => rfl); (case hg => rfl); (case hr => first | (go_simp; done) | (go_simp; rfl)); intro gb443 hg w8 hbox hb; have n0_ := Aside0.mk (below_step (by repeat (first | (with_reducible first | exact HB.out | apply below_alloc | apply pw_below_drewN | apply below_drew1) | exact HB.out)) hb); have n1_ := Aside0.mk (hbox); have n2_ := Aside0.mk ((by rw [hg]; exact (below_size (by repeat (first | (with_reducible first | exact HB.out | apply below_alloc | apply pw_below_drewN | apply below_drew1) | exact HB.out))) : w.heap.size ≤ gb443)); have n3_ := Aside0.mk ((by rw [hg]; exact (below_size (by repeat (first | (with_reducible first | exact HB.out | apply below_alloc | apply pw_below_drewN | apply below_drew1) | exact HB.out))) : w.heap.size ≤ gb443)); clear HB; have HB := n0_; have BK443 := n1_; have GW443 := n2_; have GE443 := n3_; clear n0_ n1_ n2_ n3_; clear hb hbox hg; have hcz9_0 : w8.cell? ⟨gb443, 0, none⟩ = some (.int .i64 a0_0) := (blk_cell BK443.out 0).trans rfl; have hcz9_1 : w8.cell? ⟨gb443, 1, none⟩ = some (.string a0_1) := (blk_cell BK443.out 1).trans rfl; have hcz9_2 : w8.cell? ⟨gb443, 2, none⟩ = some (.int .i64 a0_2) := (blk_cell BK443.out 2).trans rfl; have hfz9_0 := blk_frozen BK443.out 0; have hfz9_1 := blk_frozen BK443.out 1; have hfz9_2 := blk_frozen BK443.out 2) | ((with_reducible refine gate_callee (f := 60) rfl ?_); refine goesL_ (some 4) rfl rfl Try.func60 (by kernel_rfl) rfl #[.agg #[.int .i64 a0_0, .string a0_1, .int .i64 a0_2]] rfl (by (try simp only [List.map_toArray, List.map_cons, List.map_nil]); first | done | rfl | (simp only [List.length_drop, List.length_take]; rfl)) ?_; (with_reducible refine (payslip_form.calls k a0_0 a0_1 a0_2 false _ A2.out).mono ?_); rintro e w10 ⟨rfl, hb⟩; refine ⟨_, rfl, ?_⟩; have n0_ := Aside0.mk (blk_below (g := gb443) (o := .cells #[.int .i64 a0_0, .string a0_1, .int .i64 a0_2] 56 (0, 0)) (by (with_reducible repeat (first | refine blk_drewN ?_ _ | refine blk_drew ?_ | refine blk_alloc ?_ _)); exact BK443.out) hb); have n1_ := Aside0.mk (below_step (by repeat (first | (with_reducible first | exact HB.out | apply below_alloc | apply pw_below_drewN | apply below_drew1 | refine below_set ?_ GE443.out) | exact HB.out)) hb); clear BK443; clear HB; have BK443 := n0_; have HB := n1_; clear n0_ n1_; (try clear hb); (try clear hb2); (try clear hk); (try clear hi)))
    go_ret
    exact ⟨by first | rfl | (simp [errW_none, errW_some] <;> rfl) | (simp [*, errW_none, errW_some] <;> rfl), by repeat (first | (with_reducible first | exact HB.out | apply below_alloc | apply pw_below_drewN | apply below_drew1 | refine below_set ?_ GE443.out) | exact HB.out)⟩

/-! ### book_Valid: function 45 -/
def book_Valid.f (k : Nat) (a0_0 : Int) (a0_1 : Int) (a0_2 : Int) (a0_3 : Int) (a0_4 : ByteArray) (a0_5 : Int) : Option (Bool) := if a0_0 ≥ 1 then (if a0_0 ≤ 256 then (if a0_1 ≥ 1 then (if a0_1 ≤ 2147483647 then (if a0_2 ≥ 0 then (if a0_2 ≤ 84005 then ((payslip_Form.f k a0_3 a0_4 a0_5).bind fun t446 => (some t446)) else (some false)) else (some false)) else (some false)) else (some false)) else (some false)) else (some false)
theorem book_Valid.mono : ∀ a0 a1 a2 a3 a4 a5 k, LeO (book_Valid.f k a0 a1 a2 a3 a4 a5) (book_Valid.f (k + 1) a0 a1 a2 a3 a4 a5) := by
  intro a0 a1 a2 a3 a4 a5 k
  unfold book_Valid.f
  repeat' first
      | (with_reducible exact payslip_Form.mono _ _ _ _)
      | (with_reducible exact LeO.refl _)
      | (with_reducible exact LeO.none _)
      | (with_reducible refine LeO.ite ?_ ?_)
      | (with_reducible refine LeO.bind ?_ (fun _ => ?_))
      | exact payslip_Form.mono _ _ _ _
      | exact LeO.none _
      | refine LeO.ite ?_ ?_
      | refine LeO.bind ?_ (fun _ => ?_)
set_option maxHeartbeats 8000000 in
set_option maxRecDepth 100000 in
theorem book_Valid.calls (k : Nat) (a0_0 : Int) (a0_1 : Int) (a0_2 : Int) (a0_3 : Int) (a0_4 : ByteArray) (a0_5 : Int) (r : Bool) (w : World) (h : book_Valid.f k a0_0 a0_1 a0_2 a0_3 a0_4 a0_5 = some r) :
    Calls Try.prog 45 #[.agg #[.int .i64 a0_0, .int .i64 a0_1, .int .i64 a0_2, .int .i64 a0_3, .string a0_4, .int .i64 a0_5]] w fun e w' => e = .returned (.bool r) ∧ Below w.heap.size w w' := by
  have hu58 := Try.underlying58
  have hu56 := Try.underlying56
  have HB := Aside0.mk (Below.refl w.heap.size w)
  have H : (if a0_0 ≥ 1 then (if a0_0 ≤ 256 then (if a0_1 ≥ 1 then (if a0_1 ≤ 2147483647 then (if a0_2 ≥ 0 then (if a0_2 ≤ 84005 then ((payslip_Form.f k a0_3 a0_4 a0_5).bind fun t446 => (some t446)) else (some false)) else (some false)) else (some false)) else (some false)) else (some false)) else (some false)) = some r := h
  clear h
  by_cases c2 : a0_0 ≥ 1
  · rw [if_pos c2] at H
    have c2b0 : decide (1 ≤ a0_0) = true := decide_eq_true c2
    clear c2
    by_cases c3 : a0_0 ≤ 256
    · rw [if_pos c3] at H
      have c3b0 : decide (a0_0 ≤ 256) = true := decide_eq_true c3
      clear c3
      by_cases c4 : a0_1 ≥ 1
      · rw [if_pos c4] at H
        have c4b0 : decide (1 ≤ a0_1) = true := decide_eq_true c4
        clear c4
        by_cases c5 : a0_1 ≤ 2147483647
        · rw [if_pos c5] at H
          have c5b0 : decide (a0_1 ≤ 2147483647) = true := decide_eq_true c5
          clear c5
          by_cases c6 : a0_2 ≥ 0
          · rw [if_pos c6] at H
            have c6b0 : decide (0 ≤ a0_2) = true := decide_eq_true c6
            clear c6
            by_cases c7 : a0_2 ≤ 84005
            · rw [if_pos c7] at H
              have c7b0 : decide (a0_2 ≤ 84005) = true := decide_eq_true c7
              clear c7
              replace H := Option.bind_eq_some_iff.mp H
              obtain ⟨t446, A80, H⟩ := H
              replace H : (some t446) = some r := H
              have A8 := Aside0.mk A80
              clear A80
              obtain rfl := Option.some.inj H
              go_enter Try.func45, Try.ntmps45
              go_wp2_with (first | ((with_reducible refine gate_dst (N := 1) rfl ?_); refine box_event ?hg (N := 1) ?hd (cs := #[.int .i64 a0_0, .int .i64 a0_1, .int .i64 a0_2, .int .i64 a0_3, .string a0_4, .int .i64 a0_5]) (t := 58) ?hr ?_; (case hd => rfl); (case hg => rfl); (case hr => first | (go_simp; done) | (go_simp; rfl)); intro gb445 hg w9 hbox hb; have n0_ := Aside0.mk (below_step (by repeat (first | (with_reducible first | exact HB.out | apply below_alloc | apply pw_below_drewN | apply below_drew1) | exact HB.out)) hb); have n1_ := Aside0.mk (hbox); have n2_ := Aside0.mk ((by rw [hg]; exact (below_size (by repeat (first | (with_reducible first | exact HB.out | apply below_alloc | apply pw_below_drewN | apply below_drew1) | exact HB.out))) : w.heap.size ≤ gb445)); have n3_ := Aside0.mk ((by rw [hg]; exact (below_size (by repeat (first | (with_reducible first | exact HB.out | apply below_alloc | apply pw_below_drewN | apply below_drew1) | exact HB.out))) : w.heap.size ≤ gb445)); clear HB; have HB := n0_; have BK445 := n1_; have GW445 := n2_; have GE445 := n3_; clear n0_ n1_ n2_ n3_; clear hb hbox hg; have hcz10_0 : w9.cell? ⟨gb445, 0, none⟩ = some (.int .i64 a0_0) := (blk_cell BK445.out 0).trans rfl; have hcz10_1 : w9.cell? ⟨gb445, 1, none⟩ = some (.int .i64 a0_1) := (blk_cell BK445.out 1).trans rfl; have hcz10_2 : w9.cell? ⟨gb445, 2, none⟩ = some (.int .i64 a0_2) := (blk_cell BK445.out 2).trans rfl; have hcz10_3 : w9.cell? ⟨gb445, 3, none⟩ = some (.int .i64 a0_3) := (blk_cell BK445.out 3).trans rfl; have hcz10_4 : w9.cell? ⟨gb445, 4, none⟩ = some (.string a0_4) := (blk_cell BK445.out 4).trans rfl; have hcz10_5 : w9.cell? ⟨gb445, 5, none⟩ = some (.int .i64 a0_5) := (blk_cell BK445.out 5).trans rfl; have hfz10_0 := blk_frozen BK445.out 0; have hfz10_1 := blk_frozen BK445.out 1; have hfz10_2 := blk_frozen BK445.out 2; have hfz10_3 := blk_frozen BK445.out 3; have hfz10_4 := blk_frozen BK445.out 4; have hfz10_5 := blk_frozen BK445.out 5) | (go_at_call 58; (with_reducible refine (payslip_Form.calls k a0_3 a0_4 a0_5 t446 _ A8.out).mono ?_); rintro e w11 ⟨rfl, hb⟩; have n0_ := Aside0.mk (blk_below (g := gb445) (o := .cells #[.int .i64 a0_0, .int .i64 a0_1, .int .i64 a0_2, .int .i64 a0_3, .string a0_4, .int .i64 a0_5] 58 (0, 0)) (by (with_reducible repeat (first | refine blk_drewN ?_ _ | refine blk_drew ?_ | refine blk_alloc ?_ _)); exact BK445.out) hb); have n1_ := Aside0.mk (below_step (by repeat (first | (with_reducible first | exact HB.out | apply below_alloc | apply pw_below_drewN | apply below_drew1 | refine below_set ?_ GE445.out) | exact HB.out)) hb); clear BK445; clear HB; have BK445 := n0_; have HB := n1_; clear n0_ n1_; (try clear hb); (try clear hb2); (try clear hk); (try clear hi)))
              go_ret
              exact ⟨by first | rfl | (simp [errW_none, errW_some] <;> rfl) | (simp [*, errW_none, errW_some] <;> rfl), by repeat (first | (with_reducible first | exact HB.out | apply below_alloc | apply pw_below_drewN | apply below_drew1 | refine below_set ?_ GE445.out) | exact HB.out)⟩
            · rw [if_neg c7] at H
              have c7b0 : decide (a0_2 ≤ 84005) = false := decide_eq_false c7
              clear c7
              obtain rfl := Option.some.inj H
              go_enter Try.func45, Try.ntmps45
              go_wp2_with (first | ((with_reducible refine gate_dst (N := 1) rfl ?_); refine box_event ?hg (N := 1) ?hd (cs := #[.int .i64 a0_0, .int .i64 a0_1, .int .i64 a0_2, .int .i64 a0_3, .string a0_4, .int .i64 a0_5]) (t := 58) ?hr ?_; (case hd => rfl); (case hg => rfl); (case hr => first | (go_simp; done) | (go_simp; rfl)); intro gb445 hg w12 hbox hb; have n0_ := Aside0.mk (below_step (by repeat (first | (with_reducible first | exact HB.out | apply below_alloc | apply pw_below_drewN | apply below_drew1) | exact HB.out)) hb); have n1_ := Aside0.mk (hbox); have n2_ := Aside0.mk ((by rw [hg]; exact (below_size (by repeat (first | (with_reducible first | exact HB.out | apply below_alloc | apply pw_below_drewN | apply below_drew1) | exact HB.out))) : w.heap.size ≤ gb445)); have n3_ := Aside0.mk ((by rw [hg]; exact (below_size (by repeat (first | (with_reducible first | exact HB.out | apply below_alloc | apply pw_below_drewN | apply below_drew1) | exact HB.out))) : w.heap.size ≤ gb445)); clear HB; have HB := n0_; have BK445 := n1_; have GW445 := n2_; have GE445 := n3_; clear n0_ n1_ n2_ n3_; clear hb hbox hg; have hcz13_0 : w12.cell? ⟨gb445, 0, none⟩ = some (.int .i64 a0_0) := (blk_cell BK445.out 0).trans rfl; have hcz13_1 : w12.cell? ⟨gb445, 1, none⟩ = some (.int .i64 a0_1) := (blk_cell BK445.out 1).trans rfl; have hcz13_2 : w12.cell? ⟨gb445, 2, none⟩ = some (.int .i64 a0_2) := (blk_cell BK445.out 2).trans rfl; have hcz13_3 : w12.cell? ⟨gb445, 3, none⟩ = some (.int .i64 a0_3) := (blk_cell BK445.out 3).trans rfl; have hcz13_4 : w12.cell? ⟨gb445, 4, none⟩ = some (.string a0_4) := (blk_cell BK445.out 4).trans rfl; have hcz13_5 : w12.cell? ⟨gb445, 5, none⟩ = some (.int .i64 a0_5) := (blk_cell BK445.out 5).trans rfl; have hfz13_0 := blk_frozen BK445.out 0; have hfz13_1 := blk_frozen BK445.out 1; have hfz13_2 := blk_frozen BK445.out 2; have hfz13_3 := blk_frozen BK445.out 3; have hfz13_4 := blk_frozen BK445.out 4; have hfz13_5 := blk_frozen BK445.out 5))
              go_ret
              exact ⟨by first | rfl | (simp [errW_none, errW_some] <;> rfl) | (simp [*, errW_none, errW_some] <;> rfl), by repeat (first | (with_reducible first | exact HB.out | apply below_alloc | apply pw_below_drewN | apply below_drew1 | refine below_set ?_ GE445.out) | exact HB.out)⟩
          · rw [if_neg c6] at H
            have c6b0 : decide (0 ≤ a0_2) = false := decide_eq_false c6
            clear c6
            obtain rfl := Option.some.inj H
            go_enter Try.func45, Try.ntmps45
            go_wp2_with (first | ((with_reducible refine gate_dst (N := 1) rfl ?_); refine box_event ?hg (N := 1) ?hd (cs := #[.int .i64 a0_0, .int .i64 a0_1, .int .i64 a0_2, .int .i64 a0_3, .string a0_4, .int .i64 a0_5]) (t := 58) ?hr ?_; (case hd => rfl); (case hg => rfl); (case hr => first | (go_simp; done) | (go_simp; rfl)); intro gb445 hg w14 hbox hb; have n0_ := Aside0.mk (below_step (by repeat (first | (with_reducible first | exact HB.out | apply below_alloc | apply pw_below_drewN | apply below_drew1) | exact HB.out)) hb); have n1_ := Aside0.mk (hbox); have n2_ := Aside0.mk ((by rw [hg]; exact (below_size (by repeat (first | (with_reducible first | exact HB.out | apply below_alloc | apply pw_below_drewN | apply below_drew1) | exact HB.out))) : w.heap.size ≤ gb445)); have n3_ := Aside0.mk ((by rw [hg]; exact (below_size (by repeat (first | (with_reducible first | exact HB.out | apply below_alloc | apply pw_below_drewN | apply below_drew1) | exact HB.out))) : w.heap.size ≤ gb445)); clear HB; have HB := n0_; have BK445 := n1_; have GW445 := n2_; have GE445 := n3_; clear n0_ n1_ n2_ n3_; clear hb hbox hg; have hcz15_0 : w14.cell? ⟨gb445, 0, none⟩ = some (.int .i64 a0_0) := (blk_cell BK445.out 0).trans rfl; have hcz15_1 : w14.cell? ⟨gb445, 1, none⟩ = some (.int .i64 a0_1) := (blk_cell BK445.out 1).trans rfl; have hcz15_2 : w14.cell? ⟨gb445, 2, none⟩ = some (.int .i64 a0_2) := (blk_cell BK445.out 2).trans rfl; have hcz15_3 : w14.cell? ⟨gb445, 3, none⟩ = some (.int .i64 a0_3) := (blk_cell BK445.out 3).trans rfl; have hcz15_4 : w14.cell? ⟨gb445, 4, none⟩ = some (.string a0_4) := (blk_cell BK445.out 4).trans rfl; have hcz15_5 : w14.cell? ⟨gb445, 5, none⟩ = some (.int .i64 a0_5) := (blk_cell BK445.out 5).trans rfl; have hfz15_0 := blk_frozen BK445.out 0; have hfz15_1 := blk_frozen BK445.out 1; have hfz15_2 := blk_frozen BK445.out 2; have hfz15_3 := blk_frozen BK445.out 3; have hfz15_4 := blk_frozen BK445.out 4; have hfz15_5 := blk_frozen BK445.out 5))
            go_ret
            exact ⟨by first | rfl | (simp [errW_none, errW_some] <;> rfl) | (simp [*, errW_none, errW_some] <;> rfl), by repeat (first | (with_reducible first | exact HB.out | apply below_alloc | apply pw_below_drewN | apply below_drew1 | refine below_set ?_ GE445.out) | exact HB.out)⟩
        · rw [if_neg c5] at H
          have c5b0 : decide (a0_1 ≤ 2147483647) = false := decide_eq_false c5
          clear c5
          obtain rfl := Option.some.inj H
          go_enter Try.func45, Try.ntmps45
          go_wp2_with (first | ((with_reducible refine gate_dst (N := 1) rfl ?_); refine box_event ?hg (N := 1) ?hd (cs := #[.int .i64 a0_0, .int .i64 a0_1, .int .i64 a0_2, .int .i64 a0_3, .string a0_4, .int .i64 a0_5]) (t := 58) ?hr ?_; (case hd => rfl); (case hg => rfl); (case hr => first | (go_simp; done) | (go_simp; rfl)); intro gb445 hg w16 hbox hb; have n0_ := Aside0.mk (below_step (by repeat (first | (with_reducible first | exact HB.out | apply below_alloc | apply pw_below_drewN | apply below_drew1) | exact HB.out)) hb); have n1_ := Aside0.mk (hbox); have n2_ := Aside0.mk ((by rw [hg]; exact (below_size (by repeat (first | (with_reducible first | exact HB.out | apply below_alloc | apply pw_below_drewN | apply below_drew1) | exact HB.out))) : w.heap.size ≤ gb445)); have n3_ := Aside0.mk ((by rw [hg]; exact (below_size (by repeat (first | (with_reducible first | exact HB.out | apply below_alloc | apply pw_below_drewN | apply below_drew1) | exact HB.out))) : w.heap.size ≤ gb445)); clear HB; have HB := n0_; have BK445 := n1_; have GW445 := n2_; have GE445 := n3_; clear n0_ n1_ n2_ n3_; clear hb hbox hg; have hcz17_0 : w16.cell? ⟨gb445, 0, none⟩ = some (.int .i64 a0_0) := (blk_cell BK445.out 0).trans rfl; have hcz17_1 : w16.cell? ⟨gb445, 1, none⟩ = some (.int .i64 a0_1) := (blk_cell BK445.out 1).trans rfl; have hcz17_2 : w16.cell? ⟨gb445, 2, none⟩ = some (.int .i64 a0_2) := (blk_cell BK445.out 2).trans rfl; have hcz17_3 : w16.cell? ⟨gb445, 3, none⟩ = some (.int .i64 a0_3) := (blk_cell BK445.out 3).trans rfl; have hcz17_4 : w16.cell? ⟨gb445, 4, none⟩ = some (.string a0_4) := (blk_cell BK445.out 4).trans rfl; have hcz17_5 : w16.cell? ⟨gb445, 5, none⟩ = some (.int .i64 a0_5) := (blk_cell BK445.out 5).trans rfl; have hfz17_0 := blk_frozen BK445.out 0; have hfz17_1 := blk_frozen BK445.out 1; have hfz17_2 := blk_frozen BK445.out 2; have hfz17_3 := blk_frozen BK445.out 3; have hfz17_4 := blk_frozen BK445.out 4; have hfz17_5 := blk_frozen BK445.out 5))
          go_ret
          exact ⟨by first | rfl | (simp [errW_none, errW_some] <;> rfl) | (simp [*, errW_none, errW_some] <;> rfl), by repeat (first | (with_reducible first | exact HB.out | apply below_alloc | apply pw_below_drewN | apply below_drew1 | refine below_set ?_ GE445.out) | exact HB.out)⟩
      · rw [if_neg c4] at H
        have c4b0 : decide (1 ≤ a0_1) = false := decide_eq_false c4
        clear c4
        obtain rfl := Option.some.inj H
        go_enter Try.func45, Try.ntmps45
        go_wp2_with (first | ((with_reducible refine gate_dst (N := 1) rfl ?_); refine box_event ?hg (N := 1) ?hd (cs := #[.int .i64 a0_0, .int .i64 a0_1, .int .i64 a0_2, .int .i64 a0_3, .string a0_4, .int .i64 a0_5]) (t := 58) ?hr ?_; (case hd => rfl); (case hg => rfl); (case hr => first | (go_simp; done) | (go_simp; rfl)); intro gb445 hg w18 hbox hb; have n0_ := Aside0.mk (below_step (by repeat (first | (with_reducible first | exact HB.out | apply below_alloc | apply pw_below_drewN | apply below_drew1) | exact HB.out)) hb); have n1_ := Aside0.mk (hbox); have n2_ := Aside0.mk ((by rw [hg]; exact (below_size (by repeat (first | (with_reducible first | exact HB.out | apply below_alloc | apply pw_below_drewN | apply below_drew1) | exact HB.out))) : w.heap.size ≤ gb445)); have n3_ := Aside0.mk ((by rw [hg]; exact (below_size (by repeat (first | (with_reducible first | exact HB.out | apply below_alloc | apply pw_below_drewN | apply below_drew1) | exact HB.out))) : w.heap.size ≤ gb445)); clear HB; have HB := n0_; have BK445 := n1_; have GW445 := n2_; have GE445 := n3_; clear n0_ n1_ n2_ n3_; clear hb hbox hg; have hcz19_0 : w18.cell? ⟨gb445, 0, none⟩ = some (.int .i64 a0_0) := (blk_cell BK445.out 0).trans rfl; have hcz19_1 : w18.cell? ⟨gb445, 1, none⟩ = some (.int .i64 a0_1) := (blk_cell BK445.out 1).trans rfl; have hcz19_2 : w18.cell? ⟨gb445, 2, none⟩ = some (.int .i64 a0_2) := (blk_cell BK445.out 2).trans rfl; have hcz19_3 : w18.cell? ⟨gb445, 3, none⟩ = some (.int .i64 a0_3) := (blk_cell BK445.out 3).trans rfl; have hcz19_4 : w18.cell? ⟨gb445, 4, none⟩ = some (.string a0_4) := (blk_cell BK445.out 4).trans rfl; have hcz19_5 : w18.cell? ⟨gb445, 5, none⟩ = some (.int .i64 a0_5) := (blk_cell BK445.out 5).trans rfl; have hfz19_0 := blk_frozen BK445.out 0; have hfz19_1 := blk_frozen BK445.out 1; have hfz19_2 := blk_frozen BK445.out 2; have hfz19_3 := blk_frozen BK445.out 3; have hfz19_4 := blk_frozen BK445.out 4; have hfz19_5 := blk_frozen BK445.out 5))
        go_ret
        exact ⟨by first | rfl | (simp [errW_none, errW_some] <;> rfl) | (simp [*, errW_none, errW_some] <;> rfl), by repeat (first | (with_reducible first | exact HB.out | apply below_alloc | apply pw_below_drewN | apply below_drew1 | refine below_set ?_ GE445.out) | exact HB.out)⟩
    · rw [if_neg c3] at H
      have c3b0 : decide (a0_0 ≤ 256) = false := decide_eq_false c3
      clear c3
      obtain rfl := Option.some.inj H
      go_enter Try.func45, Try.ntmps45
      go_wp2_with (first | ((with_reducible refine gate_dst (N := 1) rfl ?_); refine box_event ?hg (N := 1) ?hd (cs := #[.int .i64 a0_0, .int .i64 a0_1, .int .i64 a0_2, .int .i64 a0_3, .string a0_4, .int .i64 a0_5]) (t := 58) ?hr ?_; (case hd => rfl); (case hg => rfl); (case hr => first | (go_simp; done) | (go_simp; rfl)); intro gb445 hg w20 hbox hb; have n0_ := Aside0.mk (below_step (by repeat (first | (with_reducible first | exact HB.out | apply below_alloc | apply pw_below_drewN | apply below_drew1) | exact HB.out)) hb); have n1_ := Aside0.mk (hbox); have n2_ := Aside0.mk ((by rw [hg]; exact (below_size (by repeat (first | (with_reducible first | exact HB.out | apply below_alloc | apply pw_below_drewN | apply below_drew1) | exact HB.out))) : w.heap.size ≤ gb445)); have n3_ := Aside0.mk ((by rw [hg]; exact (below_size (by repeat (first | (with_reducible first | exact HB.out | apply below_alloc | apply pw_below_drewN | apply below_drew1) | exact HB.out))) : w.heap.size ≤ gb445)); clear HB; have HB := n0_; have BK445 := n1_; have GW445 := n2_; have GE445 := n3_; clear n0_ n1_ n2_ n3_; clear hb hbox hg; have hcz21_0 : w20.cell? ⟨gb445, 0, none⟩ = some (.int .i64 a0_0) := (blk_cell BK445.out 0).trans rfl; have hcz21_1 : w20.cell? ⟨gb445, 1, none⟩ = some (.int .i64 a0_1) := (blk_cell BK445.out 1).trans rfl; have hcz21_2 : w20.cell? ⟨gb445, 2, none⟩ = some (.int .i64 a0_2) := (blk_cell BK445.out 2).trans rfl; have hcz21_3 : w20.cell? ⟨gb445, 3, none⟩ = some (.int .i64 a0_3) := (blk_cell BK445.out 3).trans rfl; have hcz21_4 : w20.cell? ⟨gb445, 4, none⟩ = some (.string a0_4) := (blk_cell BK445.out 4).trans rfl; have hcz21_5 : w20.cell? ⟨gb445, 5, none⟩ = some (.int .i64 a0_5) := (blk_cell BK445.out 5).trans rfl; have hfz21_0 := blk_frozen BK445.out 0; have hfz21_1 := blk_frozen BK445.out 1; have hfz21_2 := blk_frozen BK445.out 2; have hfz21_3 := blk_frozen BK445.out 3; have hfz21_4 := blk_frozen BK445.out 4; have hfz21_5 := blk_frozen BK445.out 5))
      go_ret
      exact ⟨by first | rfl | (simp [errW_none, errW_some] <;> rfl) | (simp [*, errW_none, errW_some] <;> rfl), by repeat (first | (with_reducible first | exact HB.out | apply below_alloc | apply pw_below_drewN | apply below_drew1 | refine below_set ?_ GE445.out) | exact HB.out)⟩
  · rw [if_neg c2] at H
    have c2b0 : decide (1 ≤ a0_0) = false := decide_eq_false c2
    clear c2
    obtain rfl := Option.some.inj H
    go_enter Try.func45, Try.ntmps45
    go_wp2_with (first | ((with_reducible refine gate_dst (N := 1) rfl ?_); refine box_event ?hg (N := 1) ?hd (cs := #[.int .i64 a0_0, .int .i64 a0_1, .int .i64 a0_2, .int .i64 a0_3, .string a0_4, .int .i64 a0_5]) (t := 58) ?hr ?_; (case hd => rfl); (case hg => rfl); (case hr => first | (go_simp; done) | (go_simp; rfl)); intro gb445 hg w22 hbox hb; have n0_ := Aside0.mk (below_step (by repeat (first | (with_reducible first | exact HB.out | apply below_alloc | apply pw_below_drewN | apply below_drew1) | exact HB.out)) hb); have n1_ := Aside0.mk (hbox); have n2_ := Aside0.mk ((by rw [hg]; exact (below_size (by repeat (first | (with_reducible first | exact HB.out | apply below_alloc | apply pw_below_drewN | apply below_drew1) | exact HB.out))) : w.heap.size ≤ gb445)); have n3_ := Aside0.mk ((by rw [hg]; exact (below_size (by repeat (first | (with_reducible first | exact HB.out | apply below_alloc | apply pw_below_drewN | apply below_drew1) | exact HB.out))) : w.heap.size ≤ gb445)); clear HB; have HB := n0_; have BK445 := n1_; have GW445 := n2_; have GE445 := n3_; clear n0_ n1_ n2_ n3_; clear hb hbox hg; have hcz23_0 : w22.cell? ⟨gb445, 0, none⟩ = some (.int .i64 a0_0) := (blk_cell BK445.out 0).trans rfl; have hcz23_1 : w22.cell? ⟨gb445, 1, none⟩ = some (.int .i64 a0_1) := (blk_cell BK445.out 1).trans rfl; have hcz23_2 : w22.cell? ⟨gb445, 2, none⟩ = some (.int .i64 a0_2) := (blk_cell BK445.out 2).trans rfl; have hcz23_3 : w22.cell? ⟨gb445, 3, none⟩ = some (.int .i64 a0_3) := (blk_cell BK445.out 3).trans rfl; have hcz23_4 : w22.cell? ⟨gb445, 4, none⟩ = some (.string a0_4) := (blk_cell BK445.out 4).trans rfl; have hcz23_5 : w22.cell? ⟨gb445, 5, none⟩ = some (.int .i64 a0_5) := (blk_cell BK445.out 5).trans rfl; have hfz23_0 := blk_frozen BK445.out 0; have hfz23_1 := blk_frozen BK445.out 1; have hfz23_2 := blk_frozen BK445.out 2; have hfz23_3 := blk_frozen BK445.out 3; have hfz23_4 := blk_frozen BK445.out 4; have hfz23_5 := blk_frozen BK445.out 5))
    go_ret
    exact ⟨by first | rfl | (simp [errW_none, errW_some] <;> rfl) | (simp [*, errW_none, errW_some] <;> rfl), by repeat (first | (with_reducible first | exact HB.out | apply below_alloc | apply pw_below_drewN | apply below_drew1 | refine below_set ?_ GE445.out) | exact HB.out)⟩

end Go.Proofs.Ytdlljjglmcpniaa.Q
