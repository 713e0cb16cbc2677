-- Printed by wip/xprint.py over the translation, with contracts proved by hand among them. Lean checks it.
import Derived.Test.YtfakedchahildaaQx0
import Derived.Test.YtfakedchahildaaQx2
import Derived.Test.YtfakedchahildaaQx4
import Derived.Test.YtfakedchahildaaQx6
namespace Go.Proofs.Ytfakedchahildaa.Q
open Go.RowKit Go.Proofs.YtfakedchahildaaW.PrintWords Go.Proofs.YtfakedchahildaaW.PrintLast Go.Proofs.YtfakedchahildaaW.PrintMore
attribute [local go_sem] max2_int min2_int max_two min_two max_three min_three max_four min_four   -- for this text's walks alone
set_option linter.unusedVariables false
set_option linter.unusedSimpArgs false

/-! ### wage_Find: function 35 -/
def wage_Find.l0 : Nat → ByteArray → List (S65) → Int → Int → Option (ByteArray × Int × Bool × Bool × Bool × Int × Bool)
  | 0, _, _, _, _ => none
  | k + 1, x1, x8, x9, x10 => if x10 < x9 then (if 0 ≤ x10 then (if x10 < (x8.length : Int) then (if ((rd_T65 x8 x10).f0).toList = x1.toList then (some ((rd_T65 x8 x10).f0, (rd_T65 x8 x10).f1, (rd_T65 x8 x10).f2, (rd_T65 x8 x10).f3, (rd_T65 x8 x10).f4, (rd_T65 x8 x10).f5, true)) else (wage_Find.l0 k x1 x8 x9 (wrap64 (x10 + 1)))) else (none)) else (none)) else (some ((⟨#[]⟩ : ByteArray), 0, false, false, false, 0, false))
def wage_Find.f (k : Nat) (l0 : List (S65)) (a1 : ByteArray) : Option (ByteArray × Int × Bool × Bool × Bool × Int × Bool) := wage_Find.l0 k a1 l0 (l0.length : Int) 0
theorem wage_Find.mono_l : ∀ k, (∀ y0 y1 y2 y3, LeO (wage_Find.l0 k y0 y1 y2 y3) (wage_Find.l0 (k + 1) y0 y1 y2 y3))
  | 0 => fun _ _ _ _ r h => by simp [wage_Find.l0] at h
  | k + 1 => by
    have ih0 := wage_Find.mono_l k
    · intro y0 y1 y2 y3
      unfold wage_Find.l0
      repeat' first
      | (with_reducible exact ih0 _ _ _ _)
      | (with_reducible exact LeO.refl _)
      | (with_reducible exact LeO.none _)
      | (with_reducible refine LeO.ite ?_ ?_)
      | (with_reducible refine LeO.bind ?_ (fun _ => ?_))
      | exact ih0 _ _ _ _
      | exact LeO.none _
      | refine LeO.ite ?_ ?_
      | refine LeO.bind ?_ (fun _ => ?_)
theorem wage_Find.mono : ∀ a0 a1 k, LeO (wage_Find.f k a0 a1) (wage_Find.f (k + 1) a0 a1) := by
  intro a0 a1 k
  have ih0 := wage_Find.mono_l k
  unfold wage_Find.f
  repeat' first
      | (with_reducible exact ih0 _ _ _ _)
      | (with_reducible exact LeO.refl _)
      | (with_reducible exact LeO.none _)
      | (with_reducible refine LeO.ite ?_ ?_)
      | (with_reducible refine LeO.bind ?_ (fun _ => ?_))
      | exact ih0 _ _ _ _
      | exact LeO.none _
      | refine LeO.ite ?_ ?_
      | refine LeO.bind ?_ (fun _ => ?_)
set_option maxHeartbeats 8000000 in
set_option maxRecDepth 100000 in
theorem wage_Find.calls (k : Nat) (A0 : Option Addr) (c0 : Nat) (l0 : List (S65)) (a1 : ByteArray) (r1 : ByteArray) (r2 : Int) (r3 : Bool) (r4 : Bool) (r5 : Bool) (r6 : Int) (r7 : Bool) (w : World) (hr0 : Kd.C k65 w A0 l0.length l0) (hc0 : l0.length ≤ c0) (h : wage_Find.f k l0 a1 = some (r1, r2, r3, r4, r5, r6, r7)) :
    Calls Try.prog 35 #[.slice A0 l0.length c0, .string a1] w fun e w' => e = .returned (.tuple #[.agg #[.string r1, .int .i64 r2, .bool r3, .bool r4, .bool r5, .int .i64 r6], .bool r7]) ∧ Below w.heap.size w w' := by
  have hu65 := Try.underlying65
  have HR0 := Aside0.mk hr0
  have HC0 := Aside0.mk hc0
  clear hr0 hc0
  have HB := Aside0.mk (Below.refl w.heap.size w)
  have H : (wage_Find.l0 k a1 l0 (l0.length : Int) 0) = some (r1, r2, r3, r4, r5, r6, r7) := h
  clear h
  have H' := Aside0.mk H
  clear H
  go_enter Try.func35, Try.ntmps35
  go_wp2_with (first | ((with_reducible refine gate_dst (N := 4) rfl ?_); refine box_event ?hg (N := 4) ?hd (cs := #[.string (⟨#[]⟩ : ByteArray), .int .i64 0, .bool false, .bool false, .bool false, .int .i64 0]) (t := 65) ?hr ?_; (case hd => rfl); (case hg => rfl); (case hr => first | (go_simp; done) | (go_simp; rfl)); intro gb123 hg w3 hbox hb; have n0_ := Aside0.mk (below_step (by repeat (first | (with_reducible first | exact HB.out | apply below_alloc | apply pw_below_drewN | apply below_drew1) | exact HB.out)) hb); have n1_ := Aside0.mk (hbox); have n2_ := Aside0.mk ((by rw [hg]; exact (below_size (by repeat (first | (with_reducible first | exact HB.out | apply below_alloc | apply pw_below_drewN | apply below_drew1) | exact HB.out))) : w.heap.size ≤ gb123)); have n3_ := Aside0.mk ((by rw [hg]; exact (below_size (by repeat (first | (with_reducible first | exact HB.out | apply below_alloc | apply pw_below_drewN | apply below_drew1) | exact HB.out))) : w.heap.size ≤ gb123)); clear HB; have HB := n0_; have BK123 := n1_; have GW123 := n2_; have GE123 := n3_; clear n0_ n1_ n2_ n3_; clear hb hbox hg))
  go_loopg [10] k (fun kq v10 w' => ∃ (x10_1 : Int) (x124000_1 : ByteArray) (x124001_1 : Int) (x124002_1 : Bool) (x124003_1 : Bool) (x124004_1 : Bool) (x124005_1 : Int), v10 = .int .i64 x10_1 ∧ Aside0 (wage_Find.l0 kq a1 l0 (l0.length : Int) x10_1 = some (r1, r2, r3, r4, r5, r6, r7)) ∧ Aside0 (kq ≤ k) ∧ Aside0 (w'.heap[gb123]? = some (.cells #[.string x124000_1, .int .i64 x124001_1, .bool x124002_1, .bool x124003_1, .bool x124004_1, .int .i64 x124005_1] 65 (0, 0))) ∧ Aside0 (Below w.heap.size w w'))
  case atStart => exact ⟨(0), ((⟨#[]⟩ : ByteArray)), (0), (false), (false), (false), (0), (by first | rfl | (simp; done) | (simp [*]; done)), H', ⟨Nat.le_refl _⟩, ⟨by (with_reducible repeat (first | refine blk_drewN ?_ _ | refine blk_drew ?_ | refine blk_alloc ?_ _)); exact BK123.out⟩, ⟨by repeat (first | (with_reducible first | exact HB.out | apply below_alloc | apply pw_below_drewN | apply below_drew1 | refine below_set ?_ GE123.out) | exact HB.out)⟩⟩
  case round =>
    clear H'
    try clear p2
    try clear c3
    obtain ⟨x10_1, x124000_1, x124001_1, x124002_1, x124003_1, x124004_1, x124005_1, rfl, HA, HK1, BK123, HB⟩ := hrel
    cases gk with
    | zero => exact absurd HA.out (by simp [wage_Find.l0])
    | succ k1 =>
      have H := HA.out
      clear HA
      simp only [wage_Find.l0] at H
      by_cases c4 : x10_1 < (l0.length : Int)
      · rw [if_pos c4] at H
        have c4b0 : decide (x10_1 < (l0.length : Int)) = true := decide_eq_true c4
        clear c4
        by_cases c5 : 0 ≤ x10_1
        · rw [if_pos c5] at H
          have c5b0 : decide (0 ≤ x10_1) = true := decide_eq_true c5
          clear c5
          by_cases c6 : x10_1 < (l0.length : Int)
          · rw [if_pos c6] at H
            have c6b0 : decide (x10_1 < (l0.length : Int)) = true := decide_eq_true c6
            clear c6
            by_cases c7 : ((rd_T65 l0 x10_1).f0).toList = a1.toList
            · rw [if_pos c7] at H
              have c7b0 : (((rd_T65 l0 x10_1).f0).toList == a1.toList) = true := beq_iff_eq.mpr c7
              have c7b1 : (((rd_T65 l0 x10_1).f0).toList != a1.toList) = false := bne_eq_false_iff_eq.mpr c7
              clear c7
              simp only [Option.some.injEq, Prod.mk.injEq] at H
              obtain ⟨rfl, rfl, rfl, rfl, rfl, rfl, rfl⟩ := H
              have p124 : 0 ≤ (x10_1 : Int) := of_decide_eq_true (by first | (with_reducible assumption) | assumption)
              have q124 : x10_1 < (l0.length : Int) := of_decide_eq_true (by first | (with_reducible assumption) | assumption)
              obtain ⟨ad124, e124, hx124_0, hx124_1, hx124_2, hx124_3, hx124_4, hx124_5⟩ := at_T65 HR0.out x10_1 p124 q124
              cases e124
              replace hx124_0 := (HB.out.cell (World.block_lt_of_cell? w _ hx124_0)).trans hx124_0
              replace hx124_1 := (HB.out.cell (World.block_lt_of_cell? w _ hx124_1)).trans hx124_1
              replace hx124_2 := (HB.out.cell (World.block_lt_of_cell? w _ hx124_2)).trans hx124_2
              replace hx124_3 := (HB.out.cell (World.block_lt_of_cell? w _ hx124_3)).trans hx124_3
              replace hx124_4 := (HB.out.cell (World.block_lt_of_cell? w _ hx124_4)).trans hx124_4
              replace hx124_5 := (HB.out.cell (World.block_lt_of_cell? w _ hx124_5)).trans hx124_5
              replace p124 := eq_true p124
              replace q124 := eq_true q124
              go_wp2_with (first | ((with_reducible refine gate_dst (N := 7) rfl ?_); refine box_event ?hg (N := 7) ?hd (cs := #[.string (⟨#[]⟩ : ByteArray), .int .i64 0, .bool false, .bool false, .bool false, .int .i64 0]) (t := 65) ?hr ?_; (case hd => rfl); (case hg => rfl); (case hr => first | (go_simp; done) | (go_simp; rfl)); intro gb125 hg w8 hbox hb; have n0_ := Aside0.mk (blk_below (g := gb123) (o := .cells #[.string x124000_1, .int .i64 x124001_1, .bool x124002_1, .bool x124003_1, .bool x124004_1, .int .i64 x124005_1] 65 (0, 0)) (by (with_reducible repeat (first | refine blk_drewN ?_ _ | refine blk_drew ?_ | refine blk_alloc ?_ _)); exact BK123.out) hb); have n1_ := Aside0.mk (below_step (by repeat (first | (with_reducible first | exact HB.out | apply below_alloc | apply pw_below_drewN | apply below_drew1 | refine below_set ?_ GE123.out) | exact HB.out)) hb); have n2_ := Aside0.mk (hbox); have n3_ := Aside0.mk ((by rw [hg]; exact (below_size (by repeat (first | (with_reducible first | exact HB.out | apply below_alloc | apply pw_below_drewN | apply below_drew1 | refine below_set ?_ GE123.out) | exact HB.out))) : w.heap.size ≤ gb125)); have n4_ := Aside0.mk ((by rw [hg]; exact (below_size (by repeat (first | (with_reducible first | exact HB.out | apply below_alloc | apply pw_below_drewN | apply below_drew1 | refine below_set ?_ GE123.out) | exact HB.out))) : w.heap.size ≤ gb125)); have n5_ := Aside0.mk ((by rw [hg]; exact Nat.ne_of_lt (blk_lt (g := gb123) (o := .cells #[.string x124000_1, .int .i64 x124001_1, .bool x124002_1, .bool x124003_1, .bool x124004_1, .int .i64 x124005_1] 65 (0, 0)) (by (with_reducible repeat (first | refine blk_drewN ?_ _ | refine blk_drew ?_ | refine blk_alloc ?_ _)); exact BK123.out)) : gb123 ≠ gb125)); have n6_ := Aside0.mk ((by rw [hg]; exact Nat.ne_of_gt (blk_lt (g := gb123) (o := .cells #[.string x124000_1, .int .i64 x124001_1, .bool x124002_1, .bool x124003_1, .bool x124004_1, .int .i64 x124005_1] 65 (0, 0)) (by (with_reducible repeat (first | refine blk_drewN ?_ _ | refine blk_drew ?_ | refine blk_alloc ?_ _)); exact BK123.out)) : gb125 ≠ gb123)); clear BK123; clear HB; have BK123 := n0_; have HB := n1_; have BK125 := n2_; have GW125 := n3_; have GE125 := n4_; have NB123_125 := n5_; have NB125_123 := n6_; clear n0_ n1_ n2_ n3_ n4_ n5_ n6_; clear hb hbox hg; have hnb9 := NB125_123.out; have hnc9 := NB123_125.out; have hcz10_0 : w8.cell? ⟨gb125, 0, none⟩ = some (.string (⟨#[]⟩ : ByteArray)) := (blk_cell BK125.out 0).trans rfl; have hcz10_1 : w8.cell? ⟨gb125, 1, none⟩ = some (.int .i64 0) := (blk_cell BK125.out 1).trans rfl; have hcz10_2 : w8.cell? ⟨gb125, 2, none⟩ = some (.bool false) := (blk_cell BK125.out 2).trans rfl; have hcz10_3 : w8.cell? ⟨gb125, 3, none⟩ = some (.bool false) := (blk_cell BK125.out 3).trans rfl; have hcz10_4 : w8.cell? ⟨gb125, 4, none⟩ = some (.bool false) := (blk_cell BK125.out 4).trans rfl; have hcz10_5 : w8.cell? ⟨gb125, 5, none⟩ = some (.int .i64 0) := (blk_cell BK125.out 5).trans rfl; have hfz10_0 := blk_frozen BK125.out 0; have hfz10_1 := blk_frozen BK125.out 1; have hfz10_2 := blk_frozen BK125.out 2; have hfz10_3 := blk_frozen BK125.out 3; have hfz10_4 := blk_frozen BK125.out 4; have hfz10_5 := blk_frozen BK125.out 5; have hcz11_0 : w8.cell? ⟨gb123, 0, none⟩ = some (.string x124000_1) := (blk_cell BK123.out 0).trans rfl; have hcz11_1 : w8.cell? ⟨gb123, 1, none⟩ = some (.int .i64 x124001_1) := (blk_cell BK123.out 1).trans rfl; have hcz11_2 : w8.cell? ⟨gb123, 2, none⟩ = some (.bool x124002_1) := (blk_cell BK123.out 2).trans rfl; have hcz11_3 : w8.cell? ⟨gb123, 3, none⟩ = some (.bool x124003_1) := (blk_cell BK123.out 3).trans rfl; have hcz11_4 : w8.cell? ⟨gb123, 4, none⟩ = some (.bool x124004_1) := (blk_cell BK123.out 4).trans rfl; have hcz11_5 : w8.cell? ⟨gb123, 5, none⟩ = some (.int .i64 x124005_1) := (blk_cell BK123.out 5).trans rfl; have hfz11_0 := blk_frozen BK123.out 0; have hfz11_1 := blk_frozen BK123.out 1; have hfz11_2 := blk_frozen BK123.out 2; have hfz11_3 := blk_frozen BK123.out 3; have hfz11_4 := blk_frozen BK123.out 4; have hfz11_5 := blk_frozen BK123.out 5))
              refine bodyPost_ret (results_ct rfl _ _ gb123 65 #[.string ((rd_T65 l0 x10_1).f0), .int .i64 ((rd_T65 l0 x10_1).f1), .bool ((rd_T65 l0 x10_1).f2), .bool ((rd_T65 l0 x10_1).f3), .bool ((rd_T65 l0 x10_1).f4), .int .i64 ((rd_T65 l0 x10_1).f5)] (0, 0) _ rfl (by (with_reducible repeat (first | refine blk_drewN ?_ _ | refine blk_drew ?_ | refine blk_alloc ?_ _)); refine blk_put (cs := #[.string ((rd_T65 l0 x10_1).f0), .int .i64 ((rd_T65 l0 x10_1).f1), .bool ((rd_T65 l0 x10_1).f2), .bool ((rd_T65 l0 x10_1).f3), .bool ((rd_T65 l0 x10_1).f4), .int .i64 x124005_1]) ?_ 5 _ rfl; (with_reducible repeat (first | refine blk_drewN ?_ _ | refine blk_drew ?_ | refine blk_alloc ?_ _)); refine blk_put (cs := #[.string ((rd_T65 l0 x10_1).f0), .int .i64 ((rd_T65 l0 x10_1).f1), .bool ((rd_T65 l0 x10_1).f2), .bool ((rd_T65 l0 x10_1).f3), .bool x124004_1, .int .i64 x124005_1]) ?_ 4 _ rfl; (with_reducible repeat (first | refine blk_drewN ?_ _ | refine blk_drew ?_ | refine blk_alloc ?_ _)); refine blk_put (cs := #[.string ((rd_T65 l0 x10_1).f0), .int .i64 ((rd_T65 l0 x10_1).f1), .bool ((rd_T65 l0 x10_1).f2), .bool x124003_1, .bool x124004_1, .int .i64 x124005_1]) ?_ 3 _ rfl; (with_reducible repeat (first | refine blk_drewN ?_ _ | refine blk_drew ?_ | refine blk_alloc ?_ _)); refine blk_put (cs := #[.string ((rd_T65 l0 x10_1).f0), .int .i64 ((rd_T65 l0 x10_1).f1), .bool x124002_1, .bool x124003_1, .bool x124004_1, .int .i64 x124005_1]) ?_ 2 _ rfl; (with_reducible repeat (first | refine blk_drewN ?_ _ | refine blk_drew ?_ | refine blk_alloc ?_ _)); refine blk_put (cs := #[.string ((rd_T65 l0 x10_1).f0), .int .i64 x124001_1, .bool x124002_1, .bool x124003_1, .bool x124004_1, .int .i64 x124005_1]) ?_ 1 _ rfl; (with_reducible repeat (first | refine blk_drewN ?_ _ | refine blk_drew ?_ | refine blk_alloc ?_ _)); refine blk_put (cs := #[.string x124000_1, .int .i64 x124001_1, .bool x124002_1, .bool x124003_1, .bool x124004_1, .int .i64 x124005_1]) ?_ 0 _ rfl; (with_reducible repeat (first | refine blk_drewN ?_ _ | refine blk_drew ?_ | refine blk_alloc ?_ _)); refine blk_far ?_ NB123_125.out _; (with_reducible repeat (first | refine blk_drewN ?_ _ | refine blk_drew ?_ | refine blk_alloc ?_ _)); refine blk_far ?_ NB123_125.out _; (with_reducible repeat (first | refine blk_drewN ?_ _ | refine blk_drew ?_ | refine blk_alloc ?_ _)); refine blk_far ?_ NB123_125.out _; (with_reducible repeat (first | refine blk_drewN ?_ _ | refine blk_drew ?_ | refine blk_alloc ?_ _)); refine blk_far ?_ NB123_125.out _; (with_reducible repeat (first | refine blk_drewN ?_ _ | refine blk_drew ?_ | refine blk_alloc ?_ _)); refine blk_far ?_ NB123_125.out _; (with_reducible repeat (first | refine blk_drewN ?_ _ | refine blk_drew ?_ | refine blk_alloc ?_ _)); refine blk_far ?_ NB123_125.out _; (with_reducible repeat (first | refine blk_drewN ?_ _ | refine blk_drew ?_ | refine blk_alloc ?_ _)); exact BK123.out) Try.underlying65 rfl (by kernel_rfl)) rfl ?_
              exact ⟨by first | rfl | (simp [errW_none, errW_some] <;> rfl) | (simp [*, errW_none, errW_some] <;> rfl), by repeat (first | (with_reducible first | exact HB.out | apply below_alloc | apply pw_below_drewN | apply below_drew1 | refine below_set ?_ GE123.out | refine below_set ?_ GE125.out) | exact HB.out)⟩
            · rw [if_neg c7] at H
              have c7b0 : (((rd_T65 l0 x10_1).f0).toList == a1.toList) = false := beq_eq_false_iff_ne.mpr c7
              have c7b1 : (((rd_T65 l0 x10_1).f0).toList != a1.toList) = true := bne_iff_ne.mpr c7
              have H' := Aside0.mk H
              clear H
              have p124 : 0 ≤ (x10_1 : Int) := of_decide_eq_true (by first | (with_reducible assumption) | assumption)
              have q124 : x10_1 < (l0.length : Int) := of_decide_eq_true (by first | (with_reducible assumption) | assumption)
              obtain ⟨ad124, e124, hx124_0, hx124_1, hx124_2, hx124_3, hx124_4, hx124_5⟩ := at_T65 HR0.out x10_1 p124 q124
              cases e124
              replace hx124_0 := (HB.out.cell (World.block_lt_of_cell? w _ hx124_0)).trans hx124_0
              replace hx124_1 := (HB.out.cell (World.block_lt_of_cell? w _ hx124_1)).trans hx124_1
              replace hx124_2 := (HB.out.cell (World.block_lt_of_cell? w _ hx124_2)).trans hx124_2
              replace hx124_3 := (HB.out.cell (World.block_lt_of_cell? w _ hx124_3)).trans hx124_3
              replace hx124_4 := (HB.out.cell (World.block_lt_of_cell? w _ hx124_4)).trans hx124_4
              replace hx124_5 := (HB.out.cell (World.block_lt_of_cell? w _ hx124_5)).trans hx124_5
              replace p124 := eq_true p124
              replace q124 := eq_true q124
              go_wp2_with (first | ((with_reducible refine gate_dst (N := 7) rfl ?_); refine box_event ?hg (N := 7) ?hd (cs := #[.string (⟨#[]⟩ : ByteArray), .int .i64 0, .bool false, .bool false, .bool false, .int .i64 0]) (t := 65) ?hr ?_; (case hd => rfl); (case hg => rfl); (case hr => first | (go_simp; done) | (go_simp; rfl)); intro gb125 hg w12 hbox hb; have n0_ := Aside0.mk (blk_below (g := gb123) (o := .cells #[.string x124000_1, .int .i64 x124001_1, .bool x124002_1, .bool x124003_1, .bool x124004_1, .int .i64 x124005_1] 65 (0, 0)) (by (with_reducible repeat (first | refine blk_drewN ?_ _ | refine blk_drew ?_ | refine blk_alloc ?_ _)); exact BK123.out) hb); have n1_ := Aside0.mk (below_step (by repeat (first | (with_reducible first | exact HB.out | apply below_alloc | apply pw_below_drewN | apply below_drew1 | refine below_set ?_ GE123.out) | exact HB.out)) hb); have n2_ := Aside0.mk (hbox); have n3_ := Aside0.mk ((by rw [hg]; exact (below_size (by repeat (first | (with_reducible first | exact HB.out | apply below_alloc | apply pw_below_drewN | apply below_drew1 | refine below_set ?_ GE123.out) | exact HB.out))) : w.heap.size ≤ gb125)); have n4_ := Aside0.mk ((by rw [hg]; exact (below_size (by repeat (first | (with_reducible first | exact HB.out | apply below_alloc | apply pw_below_drewN | apply below_drew1 | refine below_set ?_ GE123.out) | exact HB.out))) : w.heap.size ≤ gb125)); have n5_ := Aside0.mk ((by rw [hg]; exact Nat.ne_of_lt (blk_lt (g := gb123) (o := .cells #[.string x124000_1, .int .i64 x124001_1, .bool x124002_1, .bool x124003_1, .bool x124004_1, .int .i64 x124005_1] 65 (0, 0)) (by (with_reducible repeat (first | refine blk_drewN ?_ _ | refine blk_drew ?_ | refine blk_alloc ?_ _)); exact BK123.out)) : gb123 ≠ gb125)); have n6_ := Aside0.mk ((by rw [hg]; exact Nat.ne_of_gt (blk_lt (g := gb123) (o := .cells #[.string x124000_1, .int .i64 x124001_1, .bool x124002_1, .bool x124003_1, .bool x124004_1, .int .i64 x124005_1] 65 (0, 0)) (by (with_reducible repeat (first | refine blk_drewN ?_ _ | refine blk_drew ?_ | refine blk_alloc ?_ _)); exact BK123.out)) : gb125 ≠ gb123)); clear BK123; clear HB; have BK123 := n0_; have HB := n1_; have BK125 := n2_; have GW125 := n3_; have GE125 := n4_; have NB123_125 := n5_; have NB125_123 := n6_; clear n0_ n1_ n2_ n3_ n4_ n5_ n6_; clear hb hbox hg; have hnb13 := NB125_123.out; have hnc13 := NB123_125.out; have hcz14_0 : w12.cell? ⟨gb125, 0, none⟩ = some (.string (⟨#[]⟩ : ByteArray)) := (blk_cell BK125.out 0).trans rfl; have hcz14_1 : w12.cell? ⟨gb125, 1, none⟩ = some (.int .i64 0) := (blk_cell BK125.out 1).trans rfl; have hcz14_2 : w12.cell? ⟨gb125, 2, none⟩ = some (.bool false) := (blk_cell BK125.out 2).trans rfl; have hcz14_3 : w12.cell? ⟨gb125, 3, none⟩ = some (.bool false) := (blk_cell BK125.out 3).trans rfl; have hcz14_4 : w12.cell? ⟨gb125, 4, none⟩ = some (.bool false) := (blk_cell BK125.out 4).trans rfl; have hcz14_5 : w12.cell? ⟨gb125, 5, none⟩ = some (.int .i64 0) := (blk_cell BK125.out 5).trans rfl; have hfz14_0 := blk_frozen BK125.out 0; have hfz14_1 := blk_frozen BK125.out 1; have hfz14_2 := blk_frozen BK125.out 2; have hfz14_3 := blk_frozen BK125.out 3; have hfz14_4 := blk_frozen BK125.out 4; have hfz14_5 := blk_frozen BK125.out 5))
              go_roundg k1
              case measure => have := HK1.out; omega
              case rel => exact ⟨(wrap64 (x10_1 + 1)), (x124000_1), (x124001_1), (x124002_1), (x124003_1), (x124004_1), (x124005_1), (by first | rfl | (simp; done) | (simp [*]; done)), H', ⟨by have := HK1.out; omega⟩, ⟨by (with_reducible repeat (first | refine blk_drewN ?_ _ | refine blk_drew ?_ | refine blk_alloc ?_ _)); refine blk_far ?_ NB123_125.out _; (with_reducible repeat (first | refine blk_drewN ?_ _ | refine blk_drew ?_ | refine blk_alloc ?_ _)); refine blk_far ?_ NB123_125.out _; (with_reducible repeat (first | refine blk_drewN ?_ _ | refine blk_drew ?_ | refine blk_alloc ?_ _)); refine blk_far ?_ NB123_125.out _; (with_reducible repeat (first | refine blk_drewN ?_ _ | refine blk_drew ?_ | refine blk_alloc ?_ _)); refine blk_far ?_ NB123_125.out _; (with_reducible repeat (first | refine blk_drewN ?_ _ | refine blk_drew ?_ | refine blk_alloc ?_ _)); refine blk_far ?_ NB123_125.out _; (with_reducible repeat (first | refine blk_drewN ?_ _ | refine blk_drew ?_ | refine blk_alloc ?_ _)); refine blk_far ?_ NB123_125.out _; (with_reducible repeat (first | refine blk_drewN ?_ _ | refine blk_drew ?_ | refine blk_alloc ?_ _)); exact BK123.out⟩, ⟨by repeat (first | (with_reducible first | exact HB.out | apply below_alloc | apply pw_below_drewN | apply below_drew1 | refine below_set ?_ GE123.out | refine below_set ?_ GE125.out) | exact HB.out)⟩⟩
          · rw [if_neg c6] at H
            exact absurd H (by simp)
        · rw [if_neg c5] at H
          exact absurd H (by simp)
      · rw [if_neg c4] at H
        have c4b0 : decide (x10_1 < (l0.length : Int)) = false := decide_eq_false c4
        clear c4
        simp only [Option.some.injEq, Prod.mk.injEq] at H
        obtain ⟨rfl, rfl, rfl, rfl, rfl, rfl, rfl⟩ := H
        have hcz15_0 : wr.cell? ⟨gb123, 0, none⟩ = some (.string x124000_1) := (blk_cell BK123.out 0).trans rfl
        have hcz15_1 : wr.cell? ⟨gb123, 1, none⟩ = some (.int .i64 x124001_1) := (blk_cell BK123.out 1).trans rfl
        have hcz15_2 : wr.cell? ⟨gb123, 2, none⟩ = some (.bool x124002_1) := (blk_cell BK123.out 2).trans rfl
        have hcz15_3 : wr.cell? ⟨gb123, 3, none⟩ = some (.bool x124003_1) := (blk_cell BK123.out 3).trans rfl
        have hcz15_4 : wr.cell? ⟨gb123, 4, none⟩ = some (.bool x124004_1) := (blk_cell BK123.out 4).trans rfl
        have hcz15_5 : wr.cell? ⟨gb123, 5, none⟩ = some (.int .i64 x124005_1) := (blk_cell BK123.out 5).trans rfl
        have hfz15_0 := blk_frozen BK123.out 0
        have hfz15_1 := blk_frozen BK123.out 1
        have hfz15_2 := blk_frozen BK123.out 2
        have hfz15_3 := blk_frozen BK123.out 3
        have hfz15_4 := blk_frozen BK123.out 4
        have hfz15_5 := blk_frozen BK123.out 5
        go_wp2
        refine bodyPost_ret (results_ct rfl _ _ gb123 65 #[.string (⟨#[]⟩ : ByteArray), .int .i64 0, .bool false, .bool false, .bool false, .int .i64 0] (0, 0) _ rfl (by (with_reducible repeat (first | refine blk_drewN ?_ _ | refine blk_drew ?_ | refine blk_alloc ?_ _)); refine blk_put (cs := #[.string (⟨#[]⟩ : ByteArray), .int .i64 0, .bool false, .bool false, .bool false, .int .i64 x124005_1]) ?_ 5 _ rfl; (with_reducible repeat (first | refine blk_drewN ?_ _ | refine blk_drew ?_ | refine blk_alloc ?_ _)); refine blk_put (cs := #[.string (⟨#[]⟩ : ByteArray), .int .i64 0, .bool false, .bool false, .bool x124004_1, .int .i64 x124005_1]) ?_ 4 _ rfl; (with_reducible repeat (first | refine blk_drewN ?_ _ | refine blk_drew ?_ | refine blk_alloc ?_ _)); refine blk_put (cs := #[.string (⟨#[]⟩ : ByteArray), .int .i64 0, .bool false, .bool x124003_1, .bool x124004_1, .int .i64 x124005_1]) ?_ 3 _ rfl; (with_reducible repeat (first | refine blk_drewN ?_ _ | refine blk_drew ?_ | refine blk_alloc ?_ _)); refine blk_put (cs := #[.string (⟨#[]⟩ : ByteArray), .int .i64 0, .bool x124002_1, .bool x124003_1, .bool x124004_1, .int .i64 x124005_1]) ?_ 2 _ rfl; (with_reducible repeat (first | refine blk_drewN ?_ _ | refine blk_drew ?_ | refine blk_alloc ?_ _)); refine blk_put (cs := #[.string (⟨#[]⟩ : ByteArray), .int .i64 x124001_1, .bool x124002_1, .bool x124003_1, .bool x124004_1, .int .i64 x124005_1]) ?_ 1 _ rfl; (with_reducible repeat (first | refine blk_drewN ?_ _ | refine blk_drew ?_ | refine blk_alloc ?_ _)); refine blk_put (cs := #[.string x124000_1, .int .i64 x124001_1, .bool x124002_1, .bool x124003_1, .bool x124004_1, .int .i64 x124005_1]) ?_ 0 _ rfl; (with_reducible repeat (first | refine blk_drewN ?_ _ | refine blk_drew ?_ | refine blk_alloc ?_ _)); exact BK123.out) Try.underlying65 rfl (by kernel_rfl)) rfl ?_
        exact ⟨by first | rfl | (simp [errW_none, errW_some] <;> rfl) | (simp [*, errW_none, errW_some] <;> rfl), by repeat (first | (with_reducible first | exact HB.out | apply below_alloc | apply pw_below_drewN | apply below_drew1 | refine below_set ?_ GE123.out) | exact HB.out)⟩

/-! ### ledger_entries: function 36 -/
section LEntExt
def entB (run number sign n : Int) : S42 := ⟨run, number, wrap64 (sign * n)⟩
set_option maxHeartbeats 8000000 in
set_option maxRecDepth 100000 in
theorem entry_calls (number sign run kind n : Int) (code : ByteArray) (gr gl : Nat) (W : World) (hgr : W.heap[gr]? = some (.cells #[.int .i64 run] 3 (0, 0))) (hgl : W.heap[gl]? = some (.cells #[.int .i64 kind, .string code, .int .i64 n] 26 (0, 0))) :
    Calls Try.prog 54 #[.int .i64 number, .int .i64 sign, .pointer (some ⟨gr, 0, none⟩), .pointer (some ⟨gl, 0, none⟩)] W fun e w' => e = .returned (.agg #[.int .i64 run, .int .i64 number, .int .i64 (wrap64 (sign * n))]) ∧ Below W.heap.size W w' := by
  have hu42 := Try.underlying42
  have hu26 := Try.underlying26
  have HB := Aside0.mk (Below.refl W.heap.size W)
  have c0 : W.cell? ⟨gr, 0, none⟩ = some (.int .i64 run) := (blk_cell hgr 0).trans rfl
  have c2 : W.cell? ⟨gl, 2, none⟩ = some (.int .i64 n) := (blk_cell hgl 2).trans rfl
  have BR := Aside0.mk hgr
  have BL := Aside0.mk hgl
  clear hgr hgl
  go_enter Try.func54, Try.ntmps54
  go_wp2_with (first
    | ((with_reducible refine gate_dst (N := 6) rfl ?_); refine box_event ?hg (N := 6) ?hd (cs := #[.int .i64 0, .int .i64 0, .int .i64 0]) (t := 42) ?hr ?_; (case hd => rfl); (case hg => rfl); (case hr => first | (go_simp; done) | (go_simp; rfl)); intro gb2 hg w7 hbox hb; have n0_ := Aside0.mk (below_step HB.out hb); have GE2 := Aside0.mk ((by rw [hg]; exact below_size HB.out) : W.heap.size ≤ gb2); have BK := Aside0.mk hbox; clear HB; have HB := n0_; clear n0_; have k0 : w7.cell? ⟨gr, 0, none⟩ = some (.int .i64 run) := (blk_cell (blk_below BR.out hb) 0).trans rfl; have k2 : w7.cell? ⟨gl, 2, none⟩ = some (.int .i64 n) := (blk_cell (blk_below BL.out hb) 2).trans rfl; clear c0 c2 hb hg; have hz0 : w7.cell? ⟨gb2, 0, none⟩ = some (.int .i64 0) := (blk_cell hbox 0).trans rfl; have hz1 : w7.cell? ⟨gb2, 1, none⟩ = some (.int .i64 0) := (blk_cell hbox 1).trans rfl; have hz2 : w7.cell? ⟨gb2, 2, none⟩ = some (.int .i64 0) := (blk_cell hbox 2).trans rfl; have hf0 := blk_frozen hbox 0; have hf1 := blk_frozen hbox 1; have hf2 := blk_frozen hbox 2; clear hbox))
  refine bodyPost_ret (results_cell_row rfl _ _ gb2 42 #[.int .i64 run, .int .i64 number, .int .i64 (wrap64 (sign * n))] (0, 0) _ rfl (blk_put (blk_put (blk_put BK.out 0 _ rfl) 1 _ rfl) 2 _ rfl) Try.underlying42 rfl (by kernel_rfl)) rfl ?_
  exact ⟨rfl, below_set (below_set (below_set HB.out GE2.out) GE2.out) GE2.out⟩

def entL (run kind n cost : Int) : List S42 := if kind = 1 then [entB run cost 1 n] else if kind = 3 then [entB run 106 (-1) n] else if kind = 4 then [entB run 103 (-1) n] else if kind = 5 then [entB run 104 1 n, entB run 103 (-1) n] else if kind = 6 then [entB run 102 (-1) n] else if kind = 7 then [entB run 105 (-1) n] else if kind = 8 then [entB run 107 (-1) n] else if kind = 9 then [entB run 100 (-1) n] else if kind = 10 then [entB run 101 1 n] else []
def ledger_entries.f (run kind : Int) (code : ByteArray) (n : Int) (cost : Int) : Option (List S42) := some (entL run kind n cost)
set_option maxHeartbeats 8000000 in
set_option maxRecDepth 100000 in
theorem ledger_entries.calls (run kind : Int) (code : ByteArray) (n : Int) (cost : Int) (r : List S42) (w : World) (h : ledger_entries.f run kind code n cost = some r) :
    Calls Try.prog 36 #[.int .i64 run, .agg #[.int .i64 kind, .string code, .int .i64 n], .int .i64 cost] w fun e w' => ∃ v0_ : Value, e = .returned v0_ ∧ Kd.R k42 42 w' w.heap.size (fun _ => True) v0_ r ∧ Below w.heap.size w w' := by
  have hu42 := Try.underlying42
  have hu26 := Try.underlying26
  have HB := Aside0.mk (Below.refl w.heap.size w)
  replace h := Option.some.inj h
  subst h
  by_cases k1 : kind = 1
  · subst k1
    obtain ⟨r, hr⟩ : ∃ r, r = entL run 1 n cost := ⟨_, rfl⟩
    rw [← hr]
    have HR := Aside0.mk (show r = [entB run cost 1 n] from hr)
    clear hr
    go_enter Try.func36, Try.ntmps36
    go_wp2_with (first
      | ((with_reducible refine gate_dst (N := 3) rfl ?_); refine box_event ?hg (N := 3) ?hd (cs := #[.int .i64 run]) (t := 3) ?hr ?_; (case hd => rfl); (case hg => rfl); (case hr => first | (go_simp; done) | (go_simp; rfl)); intro gr hg w5 hbox hb; have BR := Aside0.mk hbox; have n0_ := Aside0.mk (below_step HB.out hb); clear HB; have HB := n0_; clear n0_ hb hg hbox)
      | ((with_reducible refine gate_dst (N := 4) rfl ?_); refine box_event ?hg (N := 4) ?hd (cs := #[.int .i64 1, .string code, .int .i64 n]) (t := 26) ?hr ?_; (case hd => rfl); (case hg => rfl); (case hr => first | (go_simp; done) | (go_simp; rfl)); intro gl hg w6 hbox hb; have n1_ := Aside0.mk (blk_below BR.out hb); have n0_ := Aside0.mk (below_step HB.out hb); clear HB BR; have HB := n0_; have BR := n1_; clear n0_ n1_; have hk0 : w6.cell? ⟨gl, 0, none⟩ = some (.int .i64 1) := (blk_cell hbox 0).trans rfl; have BL := Aside0.mk hbox; clear hb hg hbox)
      | (go_at_call 54; with_reducible refine (entry_calls cost 1 run 1 n code gr gl _ BR.out BL.out).mono ?_; rintro e w8 ⟨rfl, hb⟩; have n0_ := Aside0.mk (below_step HB.out hb); have n1_ := Aside0.mk (blk_below BR.out hb); have n2_ := Aside0.mk (blk_below BL.out hb); clear HB BR BL; have HB := n0_; have BR := n1_; have BL := n2_; clear n0_ n1_ n2_ hb; (try clear hk0))
      | ((with_reducible refine gate_dst (N := 16) rfl ?_); refine Kd.R_lit k42 _ 42 ?hg (N := 16) ?hd (xs := [entB run cost 1 n]) (inner := [.int .i64 run, .int .i64 cost, .int .i64 (wrap64 (1 * n))]) (ok := fun _ => True) (okp := fun _ => True) ?hr ?hp (fun _ hk => hk) trivial (Below.refl _ _) (Nat.le_refl _) (by simp) ?_; (case hd => rfl); (case hg => rfl); (case hr => first | (go_simp; done) | (go_simp; rfl)); (case hp => exact (Reps.c3 (show Kd.M k42 _ _ _ (entB run cost 1 n) [.int .i64 run, .int .i64 cost, .int .i64 (wrap64 (1 * n))] from (k42_mkM _ _ _ (entB run cost 1 n))) (Reps.none _ _))); intro v9 w9 ho hb hg_ hnew_; clear hg_ hnew_; have HO := Aside0.mk (Kd.R_lower ho (below_size HB.out)); have n0_ := Aside0.mk (below_step HB.out hb); clear HB; have HB := n0_; clear n0_ hb ho))
    go_ret
    exact ⟨_, rfl, by rw [HR.out]; exact HO.out, HB.out⟩
  by_cases k3 : kind = 3
  · subst k3
    obtain ⟨r, hr⟩ : ∃ r, r = entL run 3 n cost := ⟨_, rfl⟩
    rw [← hr]
    have HR := Aside0.mk (show r = [entB run 106 (-1) n] from hr)
    clear hr k1
    go_enter Try.func36, Try.ntmps36
    go_wp2_with (first
      | ((with_reducible refine gate_dst (N := 3) rfl ?_); refine box_event ?hg (N := 3) ?hd (cs := #[.int .i64 run]) (t := 3) ?hr ?_; (case hd => rfl); (case hg => rfl); (case hr => first | (go_simp; done) | (go_simp; rfl)); intro gr hg w5 hbox hb; have BR := Aside0.mk hbox; have n0_ := Aside0.mk (below_step HB.out hb); clear HB; have HB := n0_; clear n0_ hb hg hbox)
      | ((with_reducible refine gate_dst (N := 4) rfl ?_); refine box_event ?hg (N := 4) ?hd (cs := #[.int .i64 3, .string code, .int .i64 n]) (t := 26) ?hr ?_; (case hd => rfl); (case hg => rfl); (case hr => first | (go_simp; done) | (go_simp; rfl)); intro gl hg w6 hbox hb; have n1_ := Aside0.mk (blk_below BR.out hb); have n0_ := Aside0.mk (below_step HB.out hb); clear HB BR; have HB := n0_; have BR := n1_; clear n0_ n1_; have hk0 : w6.cell? ⟨gl, 0, none⟩ = some (.int .i64 3) := (blk_cell hbox 0).trans rfl; have BL := Aside0.mk hbox; clear hb hg hbox)
      | (go_at_call 54; with_reducible refine (entry_calls 106 (-1) run 3 n code gr gl _ BR.out BL.out).mono ?_; rintro e w8 ⟨rfl, hb⟩; have n0_ := Aside0.mk (below_step HB.out hb); have n1_ := Aside0.mk (blk_below BR.out hb); have n2_ := Aside0.mk (blk_below BL.out hb); clear HB BR BL; have HB := n0_; have BR := n1_; have BL := n2_; clear n0_ n1_ n2_ hb; (try clear hk0))
      | ((with_reducible refine gate_dst (N := 21) rfl ?_); refine Kd.R_lit k42 _ 42 ?hg (N := 21) ?hd (xs := [entB run 106 (-1) n]) (inner := [.int .i64 run, .int .i64 106, .int .i64 (wrap64 ((-1) * n))]) (ok := fun _ => True) (okp := fun _ => True) ?hr ?hp (fun _ hk => hk) trivial (Below.refl _ _) (Nat.le_refl _) (by simp) ?_; (case hd => rfl); (case hg => rfl); (case hr => first | (go_simp; done) | (go_simp; rfl)); (case hp => exact (Reps.c3 (show Kd.M k42 _ _ _ (entB run 106 (-1) n) [.int .i64 run, .int .i64 106, .int .i64 (wrap64 ((-1) * n))] from (k42_mkM _ _ _ (entB run 106 (-1) n))) (Reps.none _ _))); intro v9 w9 ho hb hg_ hnew_; clear hg_ hnew_; have HO := Aside0.mk (Kd.R_lower ho (below_size HB.out)); have n0_ := Aside0.mk (below_step HB.out hb); clear HB; have HB := n0_; clear n0_ hb ho))
    go_ret
    exact ⟨_, rfl, by rw [HR.out]; exact HO.out, HB.out⟩
  by_cases k4 : kind = 4
  · subst k4
    obtain ⟨r, hr⟩ : ∃ r, r = entL run 4 n cost := ⟨_, rfl⟩
    rw [← hr]
    have HR := Aside0.mk (show r = [entB run 103 (-1) n] from hr)
    clear hr k1 k3
    go_enter Try.func36, Try.ntmps36
    go_wp2_with (first
      | ((with_reducible refine gate_dst (N := 3) rfl ?_); refine box_event ?hg (N := 3) ?hd (cs := #[.int .i64 run]) (t := 3) ?hr ?_; (case hd => rfl); (case hg => rfl); (case hr => first | (go_simp; done) | (go_simp; rfl)); intro gr hg w5 hbox hb; have BR := Aside0.mk hbox; have n0_ := Aside0.mk (below_step HB.out hb); clear HB; have HB := n0_; clear n0_ hb hg hbox)
      | ((with_reducible refine gate_dst (N := 4) rfl ?_); refine box_event ?hg (N := 4) ?hd (cs := #[.int .i64 4, .string code, .int .i64 n]) (t := 26) ?hr ?_; (case hd => rfl); (case hg => rfl); (case hr => first | (go_simp; done) | (go_simp; rfl)); intro gl hg w6 hbox hb; have n1_ := Aside0.mk (blk_below BR.out hb); have n0_ := Aside0.mk (below_step HB.out hb); clear HB BR; have HB := n0_; have BR := n1_; clear n0_ n1_; have hk0 : w6.cell? ⟨gl, 0, none⟩ = some (.int .i64 4) := (blk_cell hbox 0).trans rfl; have BL := Aside0.mk hbox; clear hb hg hbox)
      | (go_at_call 54; with_reducible refine (entry_calls 103 (-1) run 4 n code gr gl _ BR.out BL.out).mono ?_; rintro e w8 ⟨rfl, hb⟩; have n0_ := Aside0.mk (below_step HB.out hb); have n1_ := Aside0.mk (blk_below BR.out hb); have n2_ := Aside0.mk (blk_below BL.out hb); clear HB BR BL; have HB := n0_; have BR := n1_; have BL := n2_; clear n0_ n1_ n2_ hb; (try clear hk0))
      | ((with_reducible refine gate_dst (N := 26) rfl ?_); refine Kd.R_lit k42 _ 42 ?hg (N := 26) ?hd (xs := [entB run 103 (-1) n]) (inner := [.int .i64 run, .int .i64 103, .int .i64 (wrap64 ((-1) * n))]) (ok := fun _ => True) (okp := fun _ => True) ?hr ?hp (fun _ hk => hk) trivial (Below.refl _ _) (Nat.le_refl _) (by simp) ?_; (case hd => rfl); (case hg => rfl); (case hr => first | (go_simp; done) | (go_simp; rfl)); (case hp => exact (Reps.c3 (show Kd.M k42 _ _ _ (entB run 103 (-1) n) [.int .i64 run, .int .i64 103, .int .i64 (wrap64 ((-1) * n))] from (k42_mkM _ _ _ (entB run 103 (-1) n))) (Reps.none _ _))); intro v9 w9 ho hb hg_ hnew_; clear hg_ hnew_; have HO := Aside0.mk (Kd.R_lower ho (below_size HB.out)); have n0_ := Aside0.mk (below_step HB.out hb); clear HB; have HB := n0_; clear n0_ hb ho))
    go_ret
    exact ⟨_, rfl, by rw [HR.out]; exact HO.out, HB.out⟩
  by_cases k5 : kind = 5
  · subst k5
    obtain ⟨r, hr⟩ : ∃ r, r = entL run 5 n cost := ⟨_, rfl⟩
    rw [← hr]
    have HR := Aside0.mk (show r = [entB run 104 1 n, entB run 103 (-1) n] from hr)
    clear hr k1 k3 k4
    go_enter Try.func36, Try.ntmps36
    go_wp2_with (first
      | ((with_reducible refine gate_dst (N := 3) rfl ?_); refine box_event ?hg (N := 3) ?hd (cs := #[.int .i64 run]) (t := 3) ?hr ?_; (case hd => rfl); (case hg => rfl); (case hr => first | (go_simp; done) | (go_simp; rfl)); intro gr hg w5 hbox hb; have BR := Aside0.mk hbox; have n0_ := Aside0.mk (below_step HB.out hb); clear HB; have HB := n0_; clear n0_ hb hg hbox)
      | ((with_reducible refine gate_dst (N := 4) rfl ?_); refine box_event ?hg (N := 4) ?hd (cs := #[.int .i64 5, .string code, .int .i64 n]) (t := 26) ?hr ?_; (case hd => rfl); (case hg => rfl); (case hr => first | (go_simp; done) | (go_simp; rfl)); intro gl hg w6 hbox hb; have n1_ := Aside0.mk (blk_below BR.out hb); have n0_ := Aside0.mk (below_step HB.out hb); clear HB BR; have HB := n0_; have BR := n1_; clear n0_ n1_; have hk0 : w6.cell? ⟨gl, 0, none⟩ = some (.int .i64 5) := (blk_cell hbox 0).trans rfl; have BL := Aside0.mk hbox; clear hb hg hbox)
      | (go_at_call 54; with_reducible refine (entry_calls 104 1 run 5 n code gr gl _ BR.out BL.out).mono ?_; rintro e w8 ⟨rfl, hb⟩; have n0_ := Aside0.mk (below_step HB.out hb); have n1_ := Aside0.mk (blk_below BR.out hb); have n2_ := Aside0.mk (blk_below BL.out hb); clear HB BR BL; have HB := n0_; have BR := n1_; have BL := n2_; clear n0_ n1_ n2_ hb; (try clear hk0))
      | (go_at_call 54; with_reducible refine (entry_calls 103 (-1) run 5 n code gr gl _ BR.out BL.out).mono ?_; rintro e w8 ⟨rfl, hb⟩; have n0_ := Aside0.mk (below_step HB.out hb); have n1_ := Aside0.mk (blk_below BR.out hb); have n2_ := Aside0.mk (blk_below BL.out hb); clear HB BR BL; have HB := n0_; have BR := n1_; have BL := n2_; clear n0_ n1_ n2_ hb; (try clear hk0))
      | ((with_reducible refine gate_dst (N := 33) rfl ?_); refine Kd.R_lit k42 _ 42 ?hg (N := 33) ?hd (xs := [entB run 104 1 n, entB run 103 (-1) n]) (inner := [.int .i64 run, .int .i64 104, .int .i64 (wrap64 (1 * n)), .int .i64 run, .int .i64 103, .int .i64 (wrap64 ((-1) * n))]) (ok := fun _ => True) (okp := fun _ => True) ?hr ?hp (fun _ hk => hk) trivial (Below.refl _ _) (Nat.le_refl _) (by simp) ?_; (case hd => rfl); (case hg => rfl); (case hr => first | (go_simp; done) | (go_simp; rfl)); (case hp => exact (Reps.c3 (show Kd.M k42 _ _ _ (entB run 104 1 n) [.int .i64 run, .int .i64 104, .int .i64 (wrap64 (1 * n))] from (k42_mkM _ _ _ (entB run 104 1 n))) (Reps.c3 (show Kd.M k42 _ _ _ (entB run 103 (-1) n) [.int .i64 run, .int .i64 103, .int .i64 (wrap64 ((-1) * n))] from (k42_mkM _ _ _ (entB run 103 (-1) n))) (Reps.none _ _)))); intro v9 w9 ho hb hg_ hnew_; clear hg_ hnew_; have HO := Aside0.mk (Kd.R_lower ho (below_size HB.out)); have n0_ := Aside0.mk (below_step HB.out hb); clear HB; have HB := n0_; clear n0_ hb ho))
    go_ret
    exact ⟨_, rfl, by rw [HR.out]; exact HO.out, HB.out⟩
  by_cases k6 : kind = 6
  · subst k6
    obtain ⟨r, hr⟩ : ∃ r, r = entL run 6 n cost := ⟨_, rfl⟩
    rw [← hr]
    have HR := Aside0.mk (show r = [entB run 102 (-1) n] from hr)
    clear hr k1 k3 k4 k5
    go_enter Try.func36, Try.ntmps36
    go_wp2_with (first
      | ((with_reducible refine gate_dst (N := 3) rfl ?_); refine box_event ?hg (N := 3) ?hd (cs := #[.int .i64 run]) (t := 3) ?hr ?_; (case hd => rfl); (case hg => rfl); (case hr => first | (go_simp; done) | (go_simp; rfl)); intro gr hg w5 hbox hb; have BR := Aside0.mk hbox; have n0_ := Aside0.mk (below_step HB.out hb); clear HB; have HB := n0_; clear n0_ hb hg hbox)
      | ((with_reducible refine gate_dst (N := 4) rfl ?_); refine box_event ?hg (N := 4) ?hd (cs := #[.int .i64 6, .string code, .int .i64 n]) (t := 26) ?hr ?_; (case hd => rfl); (case hg => rfl); (case hr => first | (go_simp; done) | (go_simp; rfl)); intro gl hg w6 hbox hb; have n1_ := Aside0.mk (blk_below BR.out hb); have n0_ := Aside0.mk (below_step HB.out hb); clear HB BR; have HB := n0_; have BR := n1_; clear n0_ n1_; have hk0 : w6.cell? ⟨gl, 0, none⟩ = some (.int .i64 6) := (blk_cell hbox 0).trans rfl; have BL := Aside0.mk hbox; clear hb hg hbox)
      | (go_at_call 54; with_reducible refine (entry_calls 102 (-1) run 6 n code gr gl _ BR.out BL.out).mono ?_; rintro e w8 ⟨rfl, hb⟩; have n0_ := Aside0.mk (below_step HB.out hb); have n1_ := Aside0.mk (blk_below BR.out hb); have n2_ := Aside0.mk (blk_below BL.out hb); clear HB BR BL; have HB := n0_; have BR := n1_; have BL := n2_; clear n0_ n1_ n2_ hb; (try clear hk0))
      | ((with_reducible refine gate_dst (N := 38) rfl ?_); refine Kd.R_lit k42 _ 42 ?hg (N := 38) ?hd (xs := [entB run 102 (-1) n]) (inner := [.int .i64 run, .int .i64 102, .int .i64 (wrap64 ((-1) * n))]) (ok := fun _ => True) (okp := fun _ => True) ?hr ?hp (fun _ hk => hk) trivial (Below.refl _ _) (Nat.le_refl _) (by simp) ?_; (case hd => rfl); (case hg => rfl); (case hr => first | (go_simp; done) | (go_simp; rfl)); (case hp => exact (Reps.c3 (show Kd.M k42 _ _ _ (entB run 102 (-1) n) [.int .i64 run, .int .i64 102, .int .i64 (wrap64 ((-1) * n))] from (k42_mkM _ _ _ (entB run 102 (-1) n))) (Reps.none _ _))); intro v9 w9 ho hb hg_ hnew_; clear hg_ hnew_; have HO := Aside0.mk (Kd.R_lower ho (below_size HB.out)); have n0_ := Aside0.mk (below_step HB.out hb); clear HB; have HB := n0_; clear n0_ hb ho))
    go_ret
    exact ⟨_, rfl, by rw [HR.out]; exact HO.out, HB.out⟩
  by_cases k7 : kind = 7
  · subst k7
    obtain ⟨r, hr⟩ : ∃ r, r = entL run 7 n cost := ⟨_, rfl⟩
    rw [← hr]
    have HR := Aside0.mk (show r = [entB run 105 (-1) n] from hr)
    clear hr k1 k3 k4 k5 k6
    go_enter Try.func36, Try.ntmps36
    go_wp2_with (first
      | ((with_reducible refine gate_dst (N := 3) rfl ?_); refine box_event ?hg (N := 3) ?hd (cs := #[.int .i64 run]) (t := 3) ?hr ?_; (case hd => rfl); (case hg => rfl); (case hr => first | (go_simp; done) | (go_simp; rfl)); intro gr hg w5 hbox hb; have BR := Aside0.mk hbox; have n0_ := Aside0.mk (below_step HB.out hb); clear HB; have HB := n0_; clear n0_ hb hg hbox)
      | ((with_reducible refine gate_dst (N := 4) rfl ?_); refine box_event ?hg (N := 4) ?hd (cs := #[.int .i64 7, .string code, .int .i64 n]) (t := 26) ?hr ?_; (case hd => rfl); (case hg => rfl); (case hr => first | (go_simp; done) | (go_simp; rfl)); intro gl hg w6 hbox hb; have n1_ := Aside0.mk (blk_below BR.out hb); have n0_ := Aside0.mk (below_step HB.out hb); clear HB BR; have HB := n0_; have BR := n1_; clear n0_ n1_; have hk0 : w6.cell? ⟨gl, 0, none⟩ = some (.int .i64 7) := (blk_cell hbox 0).trans rfl; have BL := Aside0.mk hbox; clear hb hg hbox)
      | (go_at_call 54; with_reducible refine (entry_calls 105 (-1) run 7 n code gr gl _ BR.out BL.out).mono ?_; rintro e w8 ⟨rfl, hb⟩; have n0_ := Aside0.mk (below_step HB.out hb); have n1_ := Aside0.mk (blk_below BR.out hb); have n2_ := Aside0.mk (blk_below BL.out hb); clear HB BR BL; have HB := n0_; have BR := n1_; have BL := n2_; clear n0_ n1_ n2_ hb; (try clear hk0))
      | ((with_reducible refine gate_dst (N := 43) rfl ?_); refine Kd.R_lit k42 _ 42 ?hg (N := 43) ?hd (xs := [entB run 105 (-1) n]) (inner := [.int .i64 run, .int .i64 105, .int .i64 (wrap64 ((-1) * n))]) (ok := fun _ => True) (okp := fun _ => True) ?hr ?hp (fun _ hk => hk) trivial (Below.refl _ _) (Nat.le_refl _) (by simp) ?_; (case hd => rfl); (case hg => rfl); (case hr => first | (go_simp; done) | (go_simp; rfl)); (case hp => exact (Reps.c3 (show Kd.M k42 _ _ _ (entB run 105 (-1) n) [.int .i64 run, .int .i64 105, .int .i64 (wrap64 ((-1) * n))] from (k42_mkM _ _ _ (entB run 105 (-1) n))) (Reps.none _ _))); intro v9 w9 ho hb hg_ hnew_; clear hg_ hnew_; have HO := Aside0.mk (Kd.R_lower ho (below_size HB.out)); have n0_ := Aside0.mk (below_step HB.out hb); clear HB; have HB := n0_; clear n0_ hb ho))
    go_ret
    exact ⟨_, rfl, by rw [HR.out]; exact HO.out, HB.out⟩
  by_cases k8 : kind = 8
  · subst k8
    obtain ⟨r, hr⟩ : ∃ r, r = entL run 8 n cost := ⟨_, rfl⟩
    rw [← hr]
    have HR := Aside0.mk (show r = [entB run 107 (-1) n] from hr)
    clear hr k1 k3 k4 k5 k6 k7
    go_enter Try.func36, Try.ntmps36
    go_wp2_with (first
      | ((with_reducible refine gate_dst (N := 3) rfl ?_); refine box_event ?hg (N := 3) ?hd (cs := #[.int .i64 run]) (t := 3) ?hr ?_; (case hd => rfl); (case hg => rfl); (case hr => first | (go_simp; done) | (go_simp; rfl)); intro gr hg w5 hbox hb; have BR := Aside0.mk hbox; have n0_ := Aside0.mk (below_step HB.out hb); clear HB; have HB := n0_; clear n0_ hb hg hbox)
      | ((with_reducible refine gate_dst (N := 4) rfl ?_); refine box_event ?hg (N := 4) ?hd (cs := #[.int .i64 8, .string code, .int .i64 n]) (t := 26) ?hr ?_; (case hd => rfl); (case hg => rfl); (case hr => first | (go_simp; done) | (go_simp; rfl)); intro gl hg w6 hbox hb; have n1_ := Aside0.mk (blk_below BR.out hb); have n0_ := Aside0.mk (below_step HB.out hb); clear HB BR; have HB := n0_; have BR := n1_; clear n0_ n1_; have hk0 : w6.cell? ⟨gl, 0, none⟩ = some (.int .i64 8) := (blk_cell hbox 0).trans rfl; have BL := Aside0.mk hbox; clear hb hg hbox)
      | (go_at_call 54; with_reducible refine (entry_calls 107 (-1) run 8 n code gr gl _ BR.out BL.out).mono ?_; rintro e w8 ⟨rfl, hb⟩; have n0_ := Aside0.mk (below_step HB.out hb); have n1_ := Aside0.mk (blk_below BR.out hb); have n2_ := Aside0.mk (blk_below BL.out hb); clear HB BR BL; have HB := n0_; have BR := n1_; have BL := n2_; clear n0_ n1_ n2_ hb; (try clear hk0))
      | ((with_reducible refine gate_dst (N := 48) rfl ?_); refine Kd.R_lit k42 _ 42 ?hg (N := 48) ?hd (xs := [entB run 107 (-1) n]) (inner := [.int .i64 run, .int .i64 107, .int .i64 (wrap64 ((-1) * n))]) (ok := fun _ => True) (okp := fun _ => True) ?hr ?hp (fun _ hk => hk) trivial (Below.refl _ _) (Nat.le_refl _) (by simp) ?_; (case hd => rfl); (case hg => rfl); (case hr => first | (go_simp; done) | (go_simp; rfl)); (case hp => exact (Reps.c3 (show Kd.M k42 _ _ _ (entB run 107 (-1) n) [.int .i64 run, .int .i64 107, .int .i64 (wrap64 ((-1) * n))] from (k42_mkM _ _ _ (entB run 107 (-1) n))) (Reps.none _ _))); intro v9 w9 ho hb hg_ hnew_; clear hg_ hnew_; have HO := Aside0.mk (Kd.R_lower ho (below_size HB.out)); have n0_ := Aside0.mk (below_step HB.out hb); clear HB; have HB := n0_; clear n0_ hb ho))
    go_ret
    exact ⟨_, rfl, by rw [HR.out]; exact HO.out, HB.out⟩
  by_cases k9 : kind = 9
  · subst k9
    obtain ⟨r, hr⟩ : ∃ r, r = entL run 9 n cost := ⟨_, rfl⟩
    rw [← hr]
    have HR := Aside0.mk (show r = [entB run 100 (-1) n] from hr)
    clear hr k1 k3 k4 k5 k6 k7 k8
    go_enter Try.func36, Try.ntmps36
    go_wp2_with (first
      | ((with_reducible refine gate_dst (N := 3) rfl ?_); refine box_event ?hg (N := 3) ?hd (cs := #[.int .i64 run]) (t := 3) ?hr ?_; (case hd => rfl); (case hg => rfl); (case hr => first | (go_simp; done) | (go_simp; rfl)); intro gr hg w5 hbox hb; have BR := Aside0.mk hbox; have n0_ := Aside0.mk (below_step HB.out hb); clear HB; have HB := n0_; clear n0_ hb hg hbox)
      | ((with_reducible refine gate_dst (N := 4) rfl ?_); refine box_event ?hg (N := 4) ?hd (cs := #[.int .i64 9, .string code, .int .i64 n]) (t := 26) ?hr ?_; (case hd => rfl); (case hg => rfl); (case hr => first | (go_simp; done) | (go_simp; rfl)); intro gl hg w6 hbox hb; have n1_ := Aside0.mk (blk_below BR.out hb); have n0_ := Aside0.mk (below_step HB.out hb); clear HB BR; have HB := n0_; have BR := n1_; clear n0_ n1_; have hk0 : w6.cell? ⟨gl, 0, none⟩ = some (.int .i64 9) := (blk_cell hbox 0).trans rfl; have BL := Aside0.mk hbox; clear hb hg hbox)
      | (go_at_call 54; with_reducible refine (entry_calls 100 (-1) run 9 n code gr gl _ BR.out BL.out).mono ?_; rintro e w8 ⟨rfl, hb⟩; have n0_ := Aside0.mk (below_step HB.out hb); have n1_ := Aside0.mk (blk_below BR.out hb); have n2_ := Aside0.mk (blk_below BL.out hb); clear HB BR BL; have HB := n0_; have BR := n1_; have BL := n2_; clear n0_ n1_ n2_ hb; (try clear hk0))
      | ((with_reducible refine gate_dst (N := 53) rfl ?_); refine Kd.R_lit k42 _ 42 ?hg (N := 53) ?hd (xs := [entB run 100 (-1) n]) (inner := [.int .i64 run, .int .i64 100, .int .i64 (wrap64 ((-1) * n))]) (ok := fun _ => True) (okp := fun _ => True) ?hr ?hp (fun _ hk => hk) trivial (Below.refl _ _) (Nat.le_refl _) (by simp) ?_; (case hd => rfl); (case hg => rfl); (case hr => first | (go_simp; done) | (go_simp; rfl)); (case hp => exact (Reps.c3 (show Kd.M k42 _ _ _ (entB run 100 (-1) n) [.int .i64 run, .int .i64 100, .int .i64 (wrap64 ((-1) * n))] from (k42_mkM _ _ _ (entB run 100 (-1) n))) (Reps.none _ _))); intro v9 w9 ho hb hg_ hnew_; clear hg_ hnew_; have HO := Aside0.mk (Kd.R_lower ho (below_size HB.out)); have n0_ := Aside0.mk (below_step HB.out hb); clear HB; have HB := n0_; clear n0_ hb ho))
    go_ret
    exact ⟨_, rfl, by rw [HR.out]; exact HO.out, HB.out⟩
  by_cases k10 : kind = 10
  · subst k10
    obtain ⟨r, hr⟩ : ∃ r, r = entL run 10 n cost := ⟨_, rfl⟩
    rw [← hr]
    have HR := Aside0.mk (show r = [entB run 101 1 n] from hr)
    clear hr k1 k3 k4 k5 k6 k7 k8 k9
    go_enter Try.func36, Try.ntmps36
    go_wp2_with (first
      | ((with_reducible refine gate_dst (N := 3) rfl ?_); refine box_event ?hg (N := 3) ?hd (cs := #[.int .i64 run]) (t := 3) ?hr ?_; (case hd => rfl); (case hg => rfl); (case hr => first | (go_simp; done) | (go_simp; rfl)); intro gr hg w5 hbox hb; have BR := Aside0.mk hbox; have n0_ := Aside0.mk (below_step HB.out hb); clear HB; have HB := n0_; clear n0_ hb hg hbox)
      | ((with_reducible refine gate_dst (N := 4) rfl ?_); refine box_event ?hg (N := 4) ?hd (cs := #[.int .i64 10, .string code, .int .i64 n]) (t := 26) ?hr ?_; (case hd => rfl); (case hg => rfl); (case hr => first | (go_simp; done) | (go_simp; rfl)); intro gl hg w6 hbox hb; have n1_ := Aside0.mk (blk_below BR.out hb); have n0_ := Aside0.mk (below_step HB.out hb); clear HB BR; have HB := n0_; have BR := n1_; clear n0_ n1_; have hk0 : w6.cell? ⟨gl, 0, none⟩ = some (.int .i64 10) := (blk_cell hbox 0).trans rfl; have BL := Aside0.mk hbox; clear hb hg hbox)
      | (go_at_call 54; with_reducible refine (entry_calls 101 1 run 10 n code gr gl _ BR.out BL.out).mono ?_; rintro e w8 ⟨rfl, hb⟩; have n0_ := Aside0.mk (below_step HB.out hb); have n1_ := Aside0.mk (blk_below BR.out hb); have n2_ := Aside0.mk (blk_below BL.out hb); clear HB BR BL; have HB := n0_; have BR := n1_; have BL := n2_; clear n0_ n1_ n2_ hb; (try clear hk0))
      | ((with_reducible refine gate_dst (N := 58) rfl ?_); refine Kd.R_lit k42 _ 42 ?hg (N := 58) ?hd (xs := [entB run 101 1 n]) (inner := [.int .i64 run, .int .i64 101, .int .i64 (wrap64 (1 * n))]) (ok := fun _ => True) (okp := fun _ => True) ?hr ?hp (fun _ hk => hk) trivial (Below.refl _ _) (Nat.le_refl _) (by simp) ?_; (case hd => rfl); (case hg => rfl); (case hr => first | (go_simp; done) | (go_simp; rfl)); (case hp => exact (Reps.c3 (show Kd.M k42 _ _ _ (entB run 101 1 n) [.int .i64 run, .int .i64 101, .int .i64 (wrap64 (1 * n))] from (k42_mkM _ _ _ (entB run 101 1 n))) (Reps.none _ _))); intro v9 w9 ho hb hg_ hnew_; clear hg_ hnew_; have HO := Aside0.mk (Kd.R_lower ho (below_size HB.out)); have n0_ := Aside0.mk (below_step HB.out hb); clear HB; have HB := n0_; clear n0_ hb ho))
    go_ret
    exact ⟨_, rfl, by rw [HR.out]; exact HO.out, HB.out⟩
  obtain ⟨r, hr⟩ : ∃ r, r = entL run kind n cost := ⟨_, rfl⟩
  rw [← hr]
  have HR := Aside0.mk (show r = [] by rw [hr]; simp [entL, k1, k3, k4, k5, k6, k7, k8, k9, k10])
  clear hr
  replace k1 : (kind == 1) = false := beq_eq_false_iff_ne.2 k1
  replace k3 : (kind == 3) = false := beq_eq_false_iff_ne.2 k3
  replace k4 : (kind == 4) = false := beq_eq_false_iff_ne.2 k4
  replace k5 : (kind == 5) = false := beq_eq_false_iff_ne.2 k5
  replace k6 : (kind == 6) = false := beq_eq_false_iff_ne.2 k6
  replace k7 : (kind == 7) = false := beq_eq_false_iff_ne.2 k7
  replace k8 : (kind == 8) = false := beq_eq_false_iff_ne.2 k8
  replace k9 : (kind == 9) = false := beq_eq_false_iff_ne.2 k9
  replace k10 : (kind == 10) = false := beq_eq_false_iff_ne.2 k10
  go_enter Try.func36, Try.ntmps36
  go_wp2_with (first
    | ((with_reducible refine gate_dst (N := 3) rfl ?_); refine box_event ?hg (N := 3) ?hd (cs := #[.int .i64 run]) (t := 3) ?hr ?_; (case hd => rfl); (case hg => rfl); (case hr => first | (go_simp; done) | (go_simp; rfl)); intro gr hg w5 hbox hb; have BR := Aside0.mk hbox; have n0_ := Aside0.mk (below_step HB.out hb); clear HB; have HB := n0_; clear n0_ hb hg hbox)
    | ((with_reducible refine gate_dst (N := 4) rfl ?_); refine box_event ?hg (N := 4) ?hd (cs := #[.int .i64 kind, .string code, .int .i64 n]) (t := 26) ?hr ?_; (case hd => rfl); (case hg => rfl); (case hr => first | (go_simp; done) | (go_simp; rfl)); intro gl hg w6 hbox hb; have n1_ := Aside0.mk (blk_below BR.out hb); have n0_ := Aside0.mk (below_step HB.out hb); clear HB BR; have HB := n0_; have BR := n1_; clear n0_ n1_; have hk0 : w6.cell? ⟨gl, 0, none⟩ = some (.int .i64 kind) := (blk_cell hbox 0).trans rfl; have BL := Aside0.mk hbox; clear hb hg hbox))
  go_ret
  exact ⟨_, rfl, by rw [HR.out]; exact Kd.R_nil _ _ _ _ _, HB.out⟩
end LEntExt

/-! ### ledger_Entries: function 12 -/
mutual
def ledger_Entries.j0 : Nat → List (S65) → List (S28) → Bool → Option ((List (S42)) × Int)
  | 0, _, _, _ => none
  | k + 1, x0, x1, x19 => if x19 = true then (some (([] : List (S42)), 1)) else (ledger_Entries.l0 k x0 ([] : List (S42)) x1 (x1.length : Int) 0)
def ledger_Entries.l0 : Nat → List (S65) → List (S42) → List (S28) → Int → Int → Option ((List (S42)) × Int)
  | 0, _, _, _, _, _ => none
  | k + 1, x0, x6, x20, x21, x22 => if x22 < x21 then (if 0 ≤ x22 then (if x22 < (x20.length : Int) then (if ((rd_T28 x20 x22).f3.f0) = 1 then ((wage_Find.f k x0 ((rd_T28 x20 x22).f3.f1)).bind fun bt134 => (if bt134.2.2.2.2.2.2 = true then ((ledger_entries.f ((rd_T28 x20 x22).f0) ((rd_T28 x20 x22).f3.f0) ((rd_T28 x20 x22).f3.f1) ((rd_T28 x20 x22).f3.f2) bt134.2.2.2.2.2.1).bind fun t142 => (if x6.length + t142.length < 5864062014805 then (ledger_Entries.l0 k x0 (x6 ++ t142) x20 x21 (wrap64 (x22 + 1))) else (none))) else (some (([] : List (S42)), 16)))) else ((ledger_entries.f ((rd_T28 x20 x22).f0) ((rd_T28 x20 x22).f3.f0) ((rd_T28 x20 x22).f3.f1) ((rd_T28 x20 x22).f3.f2) 0).bind fun t148 => (if x6.length + t148.length < 5864062014805 then (ledger_Entries.l0 k x0 (x6 ++ t148) x20 x21 (wrap64 (x22 + 1))) else (none)))) else (none)) else (none)) else ((ledger_Merge.f x6).bind fun bt128 => (some (bt128.1, bt128.2)))
end
def ledger_Entries.f (k : Nat) (l0 : List (S65)) (l1 : List (S28)) : Option ((List (S42)) × Int) := (wage_Valid.f k l0).bind fun t126 => (if t126 = true then ((book_Book.f k l1).bind fun t127 => (ledger_Entries.j0 k l0 l1 (!t127))) else (ledger_Entries.j0 k l0 l1 true))
theorem ledger_Entries.mono_l : ∀ k, (∀ y0 y1 y2, LeO (ledger_Entries.j0 k y0 y1 y2) (ledger_Entries.j0 (k + 1) y0 y1 y2)) ∧ (∀ y0 y1 y2 y3 y4, LeO (ledger_Entries.l0 k y0 y1 y2 y3 y4) (ledger_Entries.l0 (k + 1) y0 y1 y2 y3 y4))
  | 0 => ⟨fun _ _ _ r h => by simp [ledger_Entries.j0] at h, fun _ _ _ _ _ r h => by simp [ledger_Entries.l0] at h⟩
  | k + 1 => by
    obtain ⟨ih0, ih1⟩ := ledger_Entries.mono_l k
    refine ⟨?_, ?_⟩
    · intro y0 y1 y2
      unfold ledger_Entries.j0
      repeat' first
      | (with_reducible exact ih0 _ _ _)
      | (with_reducible exact ih1 _ _ _ _ _)
      | (with_reducible exact book_Book.mono _ _)
      | (with_reducible exact wage_Find.mono _ _ _)
      | (with_reducible exact wage_Valid.mono _ _)
      | (with_reducible exact LeO.refl _)
      | (with_reducible exact LeO.none _)
      | (with_reducible refine LeO.ite ?_ ?_)
      | (with_reducible refine LeO.bind ?_ (fun _ => ?_))
      | exact ih0 _ _ _
      | exact ih1 _ _ _ _ _
      | exact book_Book.mono _ _
      | exact wage_Find.mono _ _ _
      | exact wage_Valid.mono _ _
      | exact LeO.none _
      | refine LeO.ite ?_ ?_
      | refine LeO.bind ?_ (fun _ => ?_)
    · intro y0 y1 y2 y3 y4
      unfold ledger_Entries.l0
      repeat' first
      | (with_reducible exact ih0 _ _ _)
      | (with_reducible exact ih1 _ _ _ _ _)
      | (with_reducible exact book_Book.mono _ _)
      | (with_reducible exact wage_Find.mono _ _ _)
      | (with_reducible exact wage_Valid.mono _ _)
      | (with_reducible exact LeO.refl _)
      | (with_reducible exact LeO.none _)
      | (with_reducible refine LeO.ite ?_ ?_)
      | (with_reducible refine LeO.bind ?_ (fun _ => ?_))
      | exact ih0 _ _ _
      | exact ih1 _ _ _ _ _
      | exact book_Book.mono _ _
      | exact wage_Find.mono _ _ _
      | exact wage_Valid.mono _ _
      | exact LeO.none _
      | refine LeO.ite ?_ ?_
      | refine LeO.bind ?_ (fun _ => ?_)
theorem ledger_Entries.mono : ∀ a0 a1 k, LeO (ledger_Entries.f k a0 a1) (ledger_Entries.f (k + 1) a0 a1) := by
  intro a0 a1 k
  obtain ⟨ih0, ih1⟩ := ledger_Entries.mono_l k
  unfold ledger_Entries.f
  repeat' first
      | (with_reducible exact ih0 _ _ _)
      | (with_reducible exact ih1 _ _ _ _ _)
      | (with_reducible exact book_Book.mono _ _)
      | (with_reducible exact wage_Find.mono _ _ _)
      | (with_reducible exact wage_Valid.mono _ _)
      | (with_reducible exact LeO.refl _)
      | (with_reducible exact LeO.none _)
      | (with_reducible refine LeO.ite ?_ ?_)
      | (with_reducible refine LeO.bind ?_ (fun _ => ?_))
      | exact ih0 _ _ _
      | exact ih1 _ _ _ _ _
      | exact book_Book.mono _ _
      | exact wage_Find.mono _ _ _
      | exact wage_Valid.mono _ _
      | exact LeO.none _
      | refine LeO.ite ?_ ?_
      | refine LeO.bind ?_ (fun _ => ?_)
set_option maxHeartbeats 8000000 in
set_option maxRecDepth 100000 in
theorem ledger_Entries.calls (k : Nat) (A0 : Option Addr) (c0 : Nat) (l0 : List (S65)) (A1 : Option Addr) (c1 : Nat) (l1 : List (S28)) (r1 : List (S42)) (r2 : Int) (w : World) (hr0 : Kd.C k65 w A0 l0.length l0) (hc0 : l0.length ≤ c0) (hr1 : Kd.C k28 w A1 l1.length l1) (hc1 : l1.length ≤ c1) (h : ledger_Entries.f k l0 l1 = some (r1, r2)) :
    Calls Try.prog 12 #[.slice A0 l0.length c0, .slice A1 l1.length c1] w fun e w' => ∃ v0_ : Value, e = .returned (.tuple #[v0_, .int .i64 r2]) ∧ Kd.R k42 42 w' w.heap.size (fun _ => True) v0_ r1 ∧ Below w.heap.size w w' := by
  have hu28 := Try.underlying28
  have hu65 := Try.underlying65
  have hu26 := Try.underlying26
  have HR0 := Aside0.mk hr0
  have HC0 := Aside0.mk hc0
  clear hr0 hc0
  have HR1 := Aside0.mk hr1
  have HC1 := Aside0.mk hc1
  clear hr1 hc1
  have HB := Aside0.mk (Below.refl w.heap.size w)
  have H : ((wage_Valid.f k l0).bind fun t126 => (if t126 = true then ((book_Book.f k l1).bind fun t127 => (ledger_Entries.j0 k l0 l1 (!t127))) else (ledger_Entries.j0 k l0 l1 true))) = some (r1, r2) := h
  clear h
  have HC3 := Aside0.mk H
  clear H
  go_enter Try.func12, Try.ntmps12
  go_upto_region 1 with (fail)
  go_cut [19] (fun v19 wc => ∃ (kq : Nat) (x19_2 : Bool), v19 = .bool x19_2 ∧ Aside0 (ledger_Entries.j0 kq l0 l1 x19_2 = some (r1, r2)) ∧ Aside0 (kq ≤ k) ∧ Aside0 (Below w.heap.size w wc))
  case first =>
    have H := HC3.out
    clear HC3
    replace H := Option.bind_eq_some_iff.mp H
    obtain ⟨t126, A40, H⟩ := H
    replace H : (if t126 = true then ((book_Book.f k l1).bind fun t127 => (ledger_Entries.j0 k l0 l1 (!t127))) else (ledger_Entries.j0 k l0 l1 true)) = some (r1, r2) := H
    have A4 := Aside0.mk A40
    clear A40
    by_cases c5 : t126 = true
    · subst c5
      have H1 : ((book_Book.f k l1).bind fun t127 => (ledger_Entries.j0 k l0 l1 (!t127))) = some (r1, r2) := by rw [if_pos rfl] at H; exact H
      clear H
      have H := H1
      clear H1
      replace H := Option.bind_eq_some_iff.mp H
      obtain ⟨t127, A60, H⟩ := H
      replace H : (ledger_Entries.j0 k l0 l1 (!t127)) = some (r1, r2) := H
      have A6 := Aside0.mk A60
      clear A60
      have H' := Aside0.mk H
      clear H
      go_wp2_with (first | ((with_reducible refine gate_callee (f := 33) rfl ?_); refine goesL_ (some 13) rfl rfl Try.func33 (by kernel_rfl) rfl #[.slice A0 l0.length c0] rfl (by (try simp only [List.map_toArray, List.map_cons, List.map_nil]); first | done | rfl | (simp only [List.length_drop, List.length_take]; rfl)) ?_; (with_reducible refine (wage_Valid.calls k _ _ l0 true _ ?side1 ?side2 A4.out).mono ?_); (case side1 => repeat (first | exact (Kd.C_below HR0.out HB.out) | (with_reducible refine Kd.C_alloc ?_ _) | (with_reducible refine Kd.C_drewN ?_ _) | (with_reducible refine Kd.C_drew ?_))); (case side2 => exact HC0.out); rintro e w7 ⟨rfl, hb⟩; refine ⟨_, rfl, ?_⟩; have n0_ := Aside0.mk (below_step (by repeat (first | (with_reducible first | exact HB.out | apply below_alloc | apply pw_below_drewN | apply below_drew1) | exact HB.out)) hb); clear HB; have HB := n0_; clear n0_; (try clear hb); (try clear hb2); (try clear hk); (try clear hi)) | (go_at_call 34; (with_reducible refine (book_Book.calls k _ _ l1 t127 _ ?side1 ?side2 A6.out).mono ?_); (case side1 => repeat (first | exact (Kd.C_below HR1.out HB.out) | (with_reducible refine Kd.C_alloc ?_ _) | (with_reducible refine Kd.C_drewN ?_ _) | (with_reducible refine Kd.C_drew ?_))); (case side2 => exact HC1.out); rintro e w8 ⟨rfl, hb⟩; have n0_ := Aside0.mk (below_step (by repeat (first | (with_reducible first | exact HB.out | apply below_alloc | apply pw_below_drewN | apply below_drew1) | exact HB.out)) hb); clear HB; have HB := n0_; clear n0_; (try clear hb); (try clear hb2); (try clear hk); (try clear hi)))
      go_meet
      case rel => exact ⟨_, (!t127), (by first | rfl | (simp; done) | (simp [*]; done)), H', ⟨by first | omega | exact Nat.le_refl _⟩, ⟨by repeat (first | (with_reducible first | exact HB.out | apply below_alloc | apply pw_below_drewN | apply below_drew1) | exact HB.out)⟩⟩
    · replace c5 := Bool.eq_false_iff.mpr c5
      subst c5
      have H1 : (ledger_Entries.j0 k l0 l1 true) = some (r1, r2) := by rw [if_neg (show ¬ (false = true) by decide)] at H; exact H
      clear H
      have H := H1
      clear H1
      have H' := Aside0.mk H
      clear H
      go_wp2_with (first | ((with_reducible refine gate_callee (f := 33) rfl ?_); refine goesL_ (some 13) rfl rfl Try.func33 (by kernel_rfl) rfl #[.slice A0 l0.length c0] rfl (by (try simp only [List.map_toArray, List.map_cons, List.map_nil]); first | done | rfl | (simp only [List.length_drop, List.length_take]; rfl)) ?_; (with_reducible refine (wage_Valid.calls k _ _ l0 false _ ?side1 ?side2 A4.out).mono ?_); (case side1 => repeat (first | exact (Kd.C_below HR0.out HB.out) | (with_reducible refine Kd.C_alloc ?_ _) | (with_reducible refine Kd.C_drewN ?_ _) | (with_reducible refine Kd.C_drew ?_))); (case side2 => exact HC0.out); rintro e w9 ⟨rfl, hb⟩; refine ⟨_, rfl, ?_⟩; have n0_ := Aside0.mk (below_step (by repeat (first | (with_reducible first | exact HB.out | apply below_alloc | apply pw_below_drewN | apply below_drew1) | exact HB.out)) hb); clear HB; have HB := n0_; clear n0_; (try clear hb); (try clear hb2); (try clear hk); (try clear hi)))
      go_meet
      case rel => exact ⟨_, (true), (by first | rfl | (simp; done) | (simp [*]; done)), H', ⟨by first | omega | exact Nat.le_refl _⟩, ⟨by repeat (first | (with_reducible first | exact HB.out | apply below_alloc | apply pw_below_drewN | apply below_drew1) | exact HB.out)⟩⟩
  case rest =>
    clear HC3
    try clear c1
    try clear p2
    try clear c3
    try clear c5
    obtain ⟨kq, x19_2, rfl, HA, HJ2, HB⟩ := hcut
    cases kq with
    | zero => exact absurd HA.out (by simp [ledger_Entries.j0])
    | succ kj2 =>
      have H := HA.out
      clear HA
      simp only [ledger_Entries.j0] at H
      by_cases c10 : x19_2 = true
      · subst c10
        have H1 : (some (([] : List (S42)), 1)) = some (r1, r2) := by rw [if_pos rfl] at H; exact H
        clear H
        have H := H1
        clear H1
        simp only [Option.some.injEq, Prod.mk.injEq] at H
        obtain ⟨rfl, rfl⟩ := H
        go_wp2
        go_ret2
        exact ⟨_, by first | rfl | (simp [errW_none, errW_some] <;> rfl) | (simp [*, errW_none, errW_some] <;> rfl), by first | exact Kd.R_nil _ _ _ _ _ | exact Kd.N_nil _ _ _ _ _ | exact Kd.V_nil _ _ _ _ _ | exact Kd.Q_nil _ _ _ _ _ | exact Kd.S_nil _ _ _ _ _, by repeat (first | (with_reducible first | exact HB.out | apply below_alloc | apply pw_below_drewN | apply below_drew1) | exact HB.out)⟩
      · replace c10 := Bool.eq_false_iff.mpr c10
        subst c10
        have H1 : (ledger_Entries.l0 kj2 l0 ([] : List (S42)) l1 (l1.length : Int) 0) = some (r1, r2) := by rw [if_neg (show ¬ (false = true) by decide)] at H; exact H
        clear H
        have H := H1
        clear H1
        have H' := Aside0.mk H
        clear H
        go_wp2
        go_loopg [6, 22] kj2 (fun kq v6 v22 w' => ∃ (x6_2 : List (S42)) (x22_2 : Int), v22 = .int .i64 x22_2 ∧ Aside0 (ledger_Entries.l0 kq l0 x6_2 l1 (l1.length : Int) x22_2 = some (r1, r2)) ∧ Aside0 (kq ≤ kj2) ∧ Aside0 (Kd.R k42 42 w' w.heap.size (fun _ => True) v6 x6_2) ∧ Aside0 (Below w.heap.size w w'))
        case atStart => exact ⟨(([] : List (S42))), (0), (by first | rfl | (simp; done) | (simp [*]; done)), H', ⟨Nat.le_refl _⟩, ⟨by first | exact Kd.R_nil _ _ _ _ _ | exact Kd.N_nil _ _ _ _ _ | exact Kd.V_nil _ _ _ _ _ | exact Kd.Q_nil _ _ _ _ _ | exact Kd.S_nil _ _ _ _ _⟩, ⟨by repeat (first | (with_reducible first | exact HB.out | apply below_alloc | apply pw_below_drewN | apply below_drew1) | exact HB.out)⟩⟩
        case round =>
          clear H'
          try clear c1
          try clear p2
          try clear c3
          try clear c5
          try clear c10
          try clear p2
          obtain ⟨x6_2, x22_2, rfl, HA, HK2, HO_6, HB⟩ := hrel
          cases gk with
          | zero => exact absurd HA.out (by simp [ledger_Entries.l0])
          | succ k2 =>
            have H := HA.out
            clear HA
            simp only [ledger_Entries.l0] at H
            by_cases c11 : x22_2 < (l1.length : Int)
            · rw [if_pos c11] at H
              have c11b0 : decide (x22_2 < (l1.length : Int)) = true := decide_eq_true c11
              clear c11
              by_cases c12 : 0 ≤ x22_2
              · rw [if_pos c12] at H
                have c12b0 : decide (0 ≤ x22_2) = true := decide_eq_true c12
                clear c12
                by_cases c13 : x22_2 < (l1.length : Int)
                · rw [if_pos c13] at H
                  have c13b0 : decide (x22_2 < (l1.length : Int)) = true := decide_eq_true c13
                  clear c13
                  by_cases c14 : ((rd_T28 l1 x22_2).f3.f0) = 1
                  · rw [if_pos c14] at H
                    have c14b0 : (((rd_T28 l1 x22_2).f3.f0) == 1) = true := beq_iff_eq.mpr c14
                    have c14b1 : (((rd_T28 l1 x22_2).f3.f0) != 1) = false := bne_eq_false_iff_eq.mpr c14
                    clear c14
                    replace H := Option.bind_eq_some_iff.mp H
                    obtain ⟨⟨t134, t135, t136, t137, t138, t139, t140⟩, A150, H⟩ := H
                    replace H : (if t140 = true then ((ledger_entries.f ((rd_T28 l1 x22_2).f0) ((rd_T28 l1 x22_2).f3.f0) ((rd_T28 l1 x22_2).f3.f1) ((rd_T28 l1 x22_2).f3.f2) t139).bind fun t142 => (if x6_2.length + t142.length < 5864062014805 then (ledger_Entries.l0 k2 l0 (x6_2 ++ t142) l1 (l1.length : Int) (wrap64 (x22_2 + 1))) else (none))) else (some (([] : List (S42)), 16))) = some (r1, r2) := H
                    have A15 := Aside0.mk A150
                    clear A150
                    by_cases c16 : t140 = true
                    · subst c16
                      have H1 : ((ledger_entries.f ((rd_T28 l1 x22_2).f0) ((rd_T28 l1 x22_2).f3.f0) ((rd_T28 l1 x22_2).f3.f1) ((rd_T28 l1 x22_2).f3.f2) t139).bind fun t142 => (if x6_2.length + t142.length < 5864062014805 then (ledger_Entries.l0 k2 l0 (x6_2 ++ t142) l1 (l1.length : Int) (wrap64 (x22_2 + 1))) else (none))) = some (r1, r2) := by rw [if_pos rfl] at H; exact H
                      clear H
                      have H := H1
                      clear H1
                      replace H := Option.bind_eq_some_iff.mp H
                      obtain ⟨t142, A170, H⟩ := H
                      replace H : (if x6_2.length + t142.length < 5864062014805 then (ledger_Entries.l0 k2 l0 (x6_2 ++ t142) l1 (l1.length : Int) (wrap64 (x22_2 + 1))) else (none)) = some (r1, r2) := H
                      have A17 := Aside0.mk A170
                      clear A170
                      by_cases c18 : x6_2.length + t142.length < 5864062014805
                      · rw [if_pos c18] at H
                        have LMc18 := Aside0.mk c18
                        clear c18
                        obtain ⟨y145, hy145⟩ : ∃ y_ : List (S42), y_ = (x6_2 ++ t142) := ⟨_, rfl⟩
                        replace H : (ledger_Entries.l0 k2 l0 y145 l1 (l1.length : Int) (wrap64 (x22_2 + 1))) = some (r1, r2) := by first | (rw [hy145]; with_reducible exact H) | (have H2_ := (Option.bind_some _ _).symm.trans H; rw [hy145]; with_reducible exact H2_) | (have H2_ := (Option.bind_some _ _).symm.trans H; with_reducible exact H2_) | with_reducible exact H | (rw [hy145]; exact H) | exact H
                        have Ny145 := Aside0.mk hy145
                        clear hy145
                        have H' := Aside0.mk H
                        clear H
                        have p132 : 0 ≤ (x22_2 : Int) := of_decide_eq_true (by first | (with_reducible assumption) | assumption)
                        have q132 : x22_2 < (l1.length : Int) := of_decide_eq_true (by first | (with_reducible assumption) | assumption)
                        obtain ⟨ad132, e132, hx132_0, hx132_1, hx132_2, hx132_3, hx132_4, hx132_5⟩ := at_T28 HR1.out x22_2 p132 q132
                        cases e132
                        replace hx132_0 := (HB.out.cell (World.block_lt_of_cell? w _ hx132_0)).trans hx132_0
                        replace hx132_1 := (HB.out.cell (World.block_lt_of_cell? w _ hx132_1)).trans hx132_1
                        replace hx132_2 := (HB.out.cell (World.block_lt_of_cell? w _ hx132_2)).trans hx132_2
                        replace hx132_3 := (HB.out.cell (World.block_lt_of_cell? w _ hx132_3)).trans hx132_3
                        replace hx132_4 := (HB.out.cell (World.block_lt_of_cell? w _ hx132_4)).trans hx132_4
                        replace hx132_5 := (HB.out.cell (World.block_lt_of_cell? w _ hx132_5)).trans hx132_5
                        replace p132 := eq_true p132
                        replace q132 := eq_true q132
                        go_wp2_with (first | ((with_reducible refine gate_dst (N := 8) rfl ?_); refine box_event ?hg (N := 8) ?hd (cs := #[.int .i64 0, .int .i64 0, .int .i64 0, .int .i64 0, .string (⟨#[]⟩ : ByteArray), .int .i64 0]) (t := 28) ?hr ?_; (case hd => rfl); (case hg => rfl); (case hr => first | (go_simp; done) | (go_simp; rfl)); intro gb133 hg w19 hbox hb; have n0_ := Aside0.mk (Kd.R_below (by (with_reducible repeat (first | apply Kd.R_alloc | apply Kd.R_drewN | apply Kd.R_drew)); exact HO_6.out) hb); have n1_ := Aside0.mk (below_step (by repeat (first | (with_reducible first | exact HB.out | apply below_alloc | apply pw_below_drewN | apply below_drew1) | exact HB.out)) hb); have n2_ := Aside0.mk (hbox); have n3_ := Aside0.mk ((by rw [hg]; exact (below_size (by repeat (first | (with_reducible first | exact HB.out | apply below_alloc | apply pw_below_drewN | apply below_drew1) | exact HB.out))) : w.heap.size ≤ gb133)); have n4_ := Aside0.mk ((by rw [hg]; exact (below_size (by repeat (first | (with_reducible first | exact HB.out | apply below_alloc | apply pw_below_drewN | apply below_drew1) | exact HB.out))) : w.heap.size ≤ gb133)); clear HO_6; clear HB; have HO_6 := n0_; have HB := n1_; have BK133 := n2_; have GW133 := n3_; have GE133 := n4_; clear n0_ n1_ n2_ n3_ n4_; clear hb hbox hg; have hcz20_0 : w19.cell? ⟨gb133, 0, none⟩ = some (.int .i64 0) := (blk_cell BK133.out 0).trans rfl; have hcz20_1 : w19.cell? ⟨gb133, 1, none⟩ = some (.int .i64 0) := (blk_cell BK133.out 1).trans rfl; have hcz20_2 : w19.cell? ⟨gb133, 2, none⟩ = some (.int .i64 0) := (blk_cell BK133.out 2).trans rfl; have hcz20_3 : w19.cell? ⟨gb133, 3, none⟩ = some (.int .i64 0) := (blk_cell BK133.out 3).trans rfl; have hcz20_4 : w19.cell? ⟨gb133, 4, none⟩ = some (.string (⟨#[]⟩ : ByteArray)) := (blk_cell BK133.out 4).trans rfl; have hcz20_5 : w19.cell? ⟨gb133, 5, none⟩ = some (.int .i64 0) := (blk_cell BK133.out 5).trans rfl; have hfz20_0 := blk_frozen BK133.out 0; have hfz20_1 := blk_frozen BK133.out 1; have hfz20_2 := blk_frozen BK133.out 2; have hfz20_3 := blk_frozen BK133.out 3; have hfz20_4 := blk_frozen BK133.out 4; have hfz20_5 := blk_frozen BK133.out 5) | ((with_reducible refine gate_callee (f := 35) rfl ?_); refine goesL_ (some 35) rfl rfl Try.func35 (by kernel_rfl) rfl #[.slice A0 l0.length c0, .string ((rd_T28 l1 x22_2).f3.f1)] rfl (by (try simp only [List.map_toArray, List.map_cons, List.map_nil]); first | done | rfl | (simp only [List.length_drop, List.length_take]; rfl)) ?_; (with_reducible refine (wage_Find.calls k2 _ _ l0 ((rd_T28 l1 x22_2).f3.f1) t134 t135 t136 t137 t138 t139 true _ ?side1 ?side2 A15.out).mono ?_); (case side1 => exact Kd.C_below HR0.out (by repeat (first | (with_reducible first | exact HB.out | apply below_alloc | apply pw_below_drewN | apply below_drew1 | refine below_set ?_ GE133.out) | exact HB.out))); (case side2 => exact HC0.out); rintro e w21 ⟨rfl, hb⟩; refine ⟨_, rfl, ?_⟩; have n0_ := Aside0.mk (Kd.R_below (by (with_reducible repeat (first | apply Kd.R_alloc | apply Kd.R_drewN | apply Kd.R_drew)); exact (Kd.R_mono (Kd.R_far (p := ⟨gb133, 5, none⟩) (Kd.R_far (p := ⟨gb133, 4, none⟩) (Kd.R_far (p := ⟨gb133, 3, none⟩) (Kd.R_far (p := ⟨gb133, 2, none⟩) (Kd.R_far (p := ⟨gb133, 1, none⟩) (Kd.R_far (p := ⟨gb133, 0, none⟩) (Kd.R_types HO_6.out BK133.out (by decide)) (fun _ hk => hk.2) (.int .i64 ((rd_T28 l1 x22_2).f0))) (fun _ hk => hk.2) (.int .i64 ((rd_T28 l1 x22_2).f1))) (fun _ hk => hk.2) (.int .i64 ((rd_T28 l1 x22_2).f2))) (fun _ hk => hk.2) (.int .i64 ((rd_T28 l1 x22_2).f3.f0))) (fun _ hk => hk.2) (.string ((rd_T28 l1 x22_2).f3.f1))) (fun _ hk => hk.2) (.int .i64 ((rd_T28 l1 x22_2).f3.f2))) (fun _ h_ => h_.1))) hb); have n1_ := Aside0.mk (blk_below (g := gb133) (o := .cells #[.int .i64 ((rd_T28 l1 x22_2).f0), .int .i64 ((rd_T28 l1 x22_2).f1), .int .i64 ((rd_T28 l1 x22_2).f2), .int .i64 ((rd_T28 l1 x22_2).f3.f0), .string ((rd_T28 l1 x22_2).f3.f1), .int .i64 ((rd_T28 l1 x22_2).f3.f2)] 28 (0, 0)) (by (with_reducible repeat (first | refine blk_drewN ?_ _ | refine blk_drew ?_ | refine blk_alloc ?_ _)); refine blk_put (cs := #[.int .i64 ((rd_T28 l1 x22_2).f0), .int .i64 ((rd_T28 l1 x22_2).f1), .int .i64 ((rd_T28 l1 x22_2).f2), .int .i64 ((rd_T28 l1 x22_2).f3.f0), .string ((rd_T28 l1 x22_2).f3.f1), .int .i64 0]) ?_ 5 _ rfl; (with_reducible repeat (first | refine blk_drewN ?_ _ | refine blk_drew ?_ | refine blk_alloc ?_ _)); refine blk_put (cs := #[.int .i64 ((rd_T28 l1 x22_2).f0), .int .i64 ((rd_T28 l1 x22_2).f1), .int .i64 ((rd_T28 l1 x22_2).f2), .int .i64 ((rd_T28 l1 x22_2).f3.f0), .string (⟨#[]⟩ : ByteArray), .int .i64 0]) ?_ 4 _ rfl; (with_reducible repeat (first | refine blk_drewN ?_ _ | refine blk_drew ?_ | refine blk_alloc ?_ _)); refine blk_put (cs := #[.int .i64 ((rd_T28 l1 x22_2).f0), .int .i64 ((rd_T28 l1 x22_2).f1), .int .i64 ((rd_T28 l1 x22_2).f2), .int .i64 0, .string (⟨#[]⟩ : ByteArray), .int .i64 0]) ?_ 3 _ rfl; (with_reducible repeat (first | refine blk_drewN ?_ _ | refine blk_drew ?_ | refine blk_alloc ?_ _)); refine blk_put (cs := #[.int .i64 ((rd_T28 l1 x22_2).f0), .int .i64 ((rd_T28 l1 x22_2).f1), .int .i64 0, .int .i64 0, .string (⟨#[]⟩ : ByteArray), .int .i64 0]) ?_ 2 _ rfl; (with_reducible repeat (first | refine blk_drewN ?_ _ | refine blk_drew ?_ | refine blk_alloc ?_ _)); refine blk_put (cs := #[.int .i64 ((rd_T28 l1 x22_2).f0), .int .i64 0, .int .i64 0, .int .i64 0, .string (⟨#[]⟩ : ByteArray), .int .i64 0]) ?_ 1 _ rfl; (with_reducible repeat (first | refine blk_drewN ?_ _ | refine blk_drew ?_ | refine blk_alloc ?_ _)); refine blk_put (cs := #[.int .i64 0, .int .i64 0, .int .i64 0, .int .i64 0, .string (⟨#[]⟩ : ByteArray), .int .i64 0]) ?_ 0 _ rfl; (with_reducible repeat (first | refine blk_drewN ?_ _ | refine blk_drew ?_ | refine blk_alloc ?_ _)); exact BK133.out) hb); have n2_ := Aside0.mk (below_step (by repeat (first | (with_reducible first | exact HB.out | apply below_alloc | apply pw_below_drewN | apply below_drew1 | refine below_set ?_ GE133.out) | exact HB.out)) hb); clear HO_6; clear BK133; clear HB; have HO_6 := n0_; have BK133 := n1_; have HB := n2_; clear n0_ n1_ n2_; (try clear hb); (try clear hb2); (try clear hk); (try clear hi)) | ((with_reducible refine gate_dst (N := 10) rfl ?_); refine box_event ?hg (N := 10) ?hd (cs := #[.string (⟨#[]⟩ : ByteArray), .int .i64 0, .bool false, .bool false, .bool false, .int .i64 0]) (t := 65) ?hr ?_; (case hd => rfl); (case hg => rfl); (case hr => first | (go_simp; done) | (go_simp; rfl)); intro gb141 hg w22 hbox hb; have n0_ := Aside0.mk (Kd.R_below (by (with_reducible repeat (first | apply Kd.R_alloc | apply Kd.R_drewN | apply Kd.R_drew)); exact HO_6.out) hb); have n1_ := Aside0.mk (blk_below (g := gb133) (o := .cells #[.int .i64 ((rd_T28 l1 x22_2).f0), .int .i64 ((rd_T28 l1 x22_2).f1), .int .i64 ((rd_T28 l1 x22_2).f2), .int .i64 ((rd_T28 l1 x22_2).f3.f0), .string ((rd_T28 l1 x22_2).f3.f1), .int .i64 ((rd_T28 l1 x22_2).f3.f2)] 28 (0, 0)) (by (with_reducible repeat (first | refine blk_drewN ?_ _ | refine blk_drew ?_ | refine blk_alloc ?_ _)); exact BK133.out) hb); have n2_ := Aside0.mk (below_step (by repeat (first | (with_reducible first | exact HB.out | apply below_alloc | apply pw_below_drewN | apply below_drew1 | refine below_set ?_ GE133.out) | exact HB.out)) hb); have n3_ := Aside0.mk (hbox); have n4_ := Aside0.mk ((by rw [hg]; exact (below_size (by repeat (first | (with_reducible first | exact HB.out | apply below_alloc | apply pw_below_drewN | apply below_drew1 | refine below_set ?_ GE133.out) | exact HB.out))) : w.heap.size ≤ gb141)); have n5_ := Aside0.mk ((by rw [hg]; exact (below_size (by repeat (first | (with_reducible first | exact HB.out | apply below_alloc | apply pw_below_drewN | apply below_drew1 | refine below_set ?_ GE133.out) | exact HB.out))) : w.heap.size ≤ gb141)); have n6_ := Aside0.mk ((by rw [hg]; exact Nat.ne_of_lt (blk_lt (g := gb133) (o := .cells #[.int .i64 ((rd_T28 l1 x22_2).f0), .int .i64 ((rd_T28 l1 x22_2).f1), .int .i64 ((rd_T28 l1 x22_2).f2), .int .i64 ((rd_T28 l1 x22_2).f3.f0), .string ((rd_T28 l1 x22_2).f3.f1), .int .i64 ((rd_T28 l1 x22_2).f3.f2)] 28 (0, 0)) (by (with_reducible repeat (first | refine blk_drewN ?_ _ | refine blk_drew ?_ | refine blk_alloc ?_ _)); exact BK133.out)) : gb133 ≠ gb141)); have n7_ := Aside0.mk ((by rw [hg]; exact Nat.ne_of_gt (blk_lt (g := gb133) (o := .cells #[.int .i64 ((rd_T28 l1 x22_2).f0), .int .i64 ((rd_T28 l1 x22_2).f1), .int .i64 ((rd_T28 l1 x22_2).f2), .int .i64 ((rd_T28 l1 x22_2).f3.f0), .string ((rd_T28 l1 x22_2).f3.f1), .int .i64 ((rd_T28 l1 x22_2).f3.f2)] 28 (0, 0)) (by (with_reducible repeat (first | refine blk_drewN ?_ _ | refine blk_drew ?_ | refine blk_alloc ?_ _)); exact BK133.out)) : gb141 ≠ gb133)); clear HO_6; clear BK133; clear HB; have HO_6 := n0_; have BK133 := n1_; have HB := n2_; have BK141 := n3_; have GW141 := n4_; have GE141 := n5_; have NB133_141 := n6_; have NB141_133 := n7_; clear n0_ n1_ n2_ n3_ n4_ n5_ n6_ n7_; clear hb hbox hg; have hnb23 := NB141_133.out; have hnc23 := NB133_141.out; have hcz24_0 : w22.cell? ⟨gb141, 0, none⟩ = some (.string (⟨#[]⟩ : ByteArray)) := (blk_cell BK141.out 0).trans rfl; have hcz24_1 : w22.cell? ⟨gb141, 1, none⟩ = some (.int .i64 0) := (blk_cell BK141.out 1).trans rfl; have hcz24_2 : w22.cell? ⟨gb141, 2, none⟩ = some (.bool false) := (blk_cell BK141.out 2).trans rfl; have hcz24_3 : w22.cell? ⟨gb141, 3, none⟩ = some (.bool false) := (blk_cell BK141.out 3).trans rfl; have hcz24_4 : w22.cell? ⟨gb141, 4, none⟩ = some (.bool false) := (blk_cell BK141.out 4).trans rfl; have hcz24_5 : w22.cell? ⟨gb141, 5, none⟩ = some (.int .i64 0) := (blk_cell BK141.out 5).trans rfl; have hfz24_0 := blk_frozen BK141.out 0; have hfz24_1 := blk_frozen BK141.out 1; have hfz24_2 := blk_frozen BK141.out 2; have hfz24_3 := blk_frozen BK141.out 3; have hfz24_4 := blk_frozen BK141.out 4; have hfz24_5 := blk_frozen BK141.out 5; have hcz25_0 : w22.cell? ⟨gb133, 0, none⟩ = some (.int .i64 ((rd_T28 l1 x22_2).f0)) := (blk_cell BK133.out 0).trans rfl; have hcz25_1 : w22.cell? ⟨gb133, 1, none⟩ = some (.int .i64 ((rd_T28 l1 x22_2).f1)) := (blk_cell BK133.out 1).trans rfl; have hcz25_2 : w22.cell? ⟨gb133, 2, none⟩ = some (.int .i64 ((rd_T28 l1 x22_2).f2)) := (blk_cell BK133.out 2).trans rfl; have hcz25_3 : w22.cell? ⟨gb133, 3, none⟩ = some (.int .i64 ((rd_T28 l1 x22_2).f3.f0)) := (blk_cell BK133.out 3).trans rfl; have hcz25_4 : w22.cell? ⟨gb133, 4, none⟩ = some (.string ((rd_T28 l1 x22_2).f3.f1)) := (blk_cell BK133.out 4).trans rfl; have hcz25_5 : w22.cell? ⟨gb133, 5, none⟩ = some (.int .i64 ((rd_T28 l1 x22_2).f3.f2)) := (blk_cell BK133.out 5).trans rfl; have hfz25_0 := blk_frozen BK133.out 0; have hfz25_1 := blk_frozen BK133.out 1; have hfz25_2 := blk_frozen BK133.out 2; have hfz25_3 := blk_frozen BK133.out 3; have hfz25_4 := blk_frozen BK133.out 4; have hfz25_5 := blk_frozen BK133.out 5) | ((with_reducible refine gate_callee (f := 36) rfl ?_); refine goesL_ (some 48) rfl rfl Try.func36 (by kernel_rfl) rfl #[.int .i64 ((rd_T28 l1 x22_2).f0), .agg #[.int .i64 ((rd_T28 l1 x22_2).f3.f0), .string ((rd_T28 l1 x22_2).f3.f1), .int .i64 ((rd_T28 l1 x22_2).f3.f2)], .int .i64 t139] rfl (by (try simp only [List.map_toArray, List.map_cons, List.map_nil]); first | done | rfl | (simp only [List.length_drop, List.length_take]; rfl)) ?_; (with_reducible refine (ledger_entries.calls ((rd_T28 l1 x22_2).f0) ((rd_T28 l1 x22_2).f3.f0) ((rd_T28 l1 x22_2).f3.f1) ((rd_T28 l1 x22_2).f3.f2) t139 t142 _ A17.out).mono ?_); rintro e w26 ⟨v143, rfl, ho0, hb⟩; refine ⟨_, rfl, ?_⟩; have n0_ := Aside0.mk (Kd.R_elder' (by (with_reducible repeat (first | apply Kd.R_alloc | apply Kd.R_drewN | apply Kd.R_drew)); exact (Kd.R_mono (Kd.R_far (p := ⟨gb141, 5, none⟩) (Kd.R_far (p := ⟨gb141, 4, none⟩) (Kd.R_far (p := ⟨gb141, 3, none⟩) (Kd.R_far (p := ⟨gb141, 2, none⟩) (Kd.R_far (p := ⟨gb141, 1, none⟩) (Kd.R_far (p := ⟨gb141, 0, none⟩) (Kd.R_types HO_6.out BK141.out (by decide)) (fun _ hk => hk.2) (.string t134)) (fun _ hk => hk.2) (.int .i64 t135)) (fun _ hk => hk.2) (.bool t136)) (fun _ hk => hk.2) (.bool t137)) (fun _ hk => hk.2) (.bool t138)) (fun _ hk => hk.2) (.int .i64 t139)) (fun _ h_ => h_.1))) (Kd.R_base ho0) hb); have n1_ := Aside0.mk (Kd.R_lower (Kd.R_new' ho0 (Kd.R_lt (by (with_reducible repeat (first | apply Kd.R_alloc | apply Kd.R_drewN | apply Kd.R_drew)); exact (Kd.R_mono (Kd.R_far (p := ⟨gb141, 5, none⟩) (Kd.R_far (p := ⟨gb141, 4, none⟩) (Kd.R_far (p := ⟨gb141, 3, none⟩) (Kd.R_far (p := ⟨gb141, 2, none⟩) (Kd.R_far (p := ⟨gb141, 1, none⟩) (Kd.R_far (p := ⟨gb141, 0, none⟩) (Kd.R_types HO_6.out BK141.out (by decide)) (fun _ hk => hk.2) (.string t134)) (fun _ hk => hk.2) (.int .i64 t135)) (fun _ hk => hk.2) (.bool t136)) (fun _ hk => hk.2) (.bool t137)) (fun _ hk => hk.2) (.bool t138)) (fun _ hk => hk.2) (.int .i64 t139)) (fun _ h_ => h_.1))))) (below_size (by repeat (first | (with_reducible first | exact HB.out | apply below_alloc | apply pw_below_drewN | apply below_drew1 | refine below_set ?_ GE133.out | refine below_set ?_ GE141.out) | exact HB.out)))); have n2_ := Aside0.mk (blk_below (g := gb133) (o := .cells #[.int .i64 ((rd_T28 l1 x22_2).f0), .int .i64 ((rd_T28 l1 x22_2).f1), .int .i64 ((rd_T28 l1 x22_2).f2), .int .i64 ((rd_T28 l1 x22_2).f3.f0), .string ((rd_T28 l1 x22_2).f3.f1), .int .i64 ((rd_T28 l1 x22_2).f3.f2)] 28 (0, 0)) (by (with_reducible repeat (first | refine blk_drewN ?_ _ | refine blk_drew ?_ | refine blk_alloc ?_ _)); refine blk_far ?_ NB133_141.out _; (with_reducible repeat (first | refine blk_drewN ?_ _ | refine blk_drew ?_ | refine blk_alloc ?_ _)); refine blk_far ?_ NB133_141.out _; (with_reducible repeat (first | refine blk_drewN ?_ _ | refine blk_drew ?_ | refine blk_alloc ?_ _)); refine blk_far ?_ NB133_141.out _; (with_reducible repeat (first | refine blk_drewN ?_ _ | refine blk_drew ?_ | refine blk_alloc ?_ _)); refine blk_far ?_ NB133_141.out _; (with_reducible repeat (first | refine blk_drewN ?_ _ | refine blk_drew ?_ | refine blk_alloc ?_ _)); refine blk_far ?_ NB133_141.out _; (with_reducible repeat (first | refine blk_drewN ?_ _ | refine blk_drew ?_ | refine blk_alloc ?_ _)); refine blk_far ?_ NB133_141.out _; (with_reducible repeat (first | refine blk_drewN ?_ _ | refine blk_drew ?_ | refine blk_alloc ?_ _)); exact BK133.out) hb); have n3_ := Aside0.mk (blk_below (g := gb141) (o := .cells #[.string t134, .int .i64 t135, .bool t136, .bool t137, .bool t138, .int .i64 t139] 65 (0, 0)) (by (with_reducible repeat (first | refine blk_drewN ?_ _ | refine blk_drew ?_ | refine blk_alloc ?_ _)); refine blk_put (cs := #[.string t134, .int .i64 t135, .bool t136, .bool t137, .bool t138, .int .i64 0]) ?_ 5 _ rfl; (with_reducible repeat (first | refine blk_drewN ?_ _ | refine blk_drew ?_ | refine blk_alloc ?_ _)); refine blk_put (cs := #[.string t134, .int .i64 t135, .bool t136, .bool t137, .bool false, .int .i64 0]) ?_ 4 _ rfl; (with_reducible repeat (first | refine blk_drewN ?_ _ | refine blk_drew ?_ | refine blk_alloc ?_ _)); refine blk_put (cs := #[.string t134, .int .i64 t135, .bool t136, .bool false, .bool false, .int .i64 0]) ?_ 3 _ rfl; (with_reducible repeat (first | refine blk_drewN ?_ _ | refine blk_drew ?_ | refine blk_alloc ?_ _)); refine blk_put (cs := #[.string t134, .int .i64 t135, .bool false, .bool false, .bool false, .int .i64 0]) ?_ 2 _ rfl; (with_reducible repeat (first | refine blk_drewN ?_ _ | refine blk_drew ?_ | refine blk_alloc ?_ _)); refine blk_put (cs := #[.string t134, .int .i64 0, .bool false, .bool false, .bool false, .int .i64 0]) ?_ 1 _ rfl; (with_reducible repeat (first | refine blk_drewN ?_ _ | refine blk_drew ?_ | refine blk_alloc ?_ _)); refine blk_put (cs := #[.string (⟨#[]⟩ : ByteArray), .int .i64 0, .bool false, .bool false, .bool false, .int .i64 0]) ?_ 0 _ rfl; (with_reducible repeat (first | refine blk_drewN ?_ _ | refine blk_drew ?_ | refine blk_alloc ?_ _)); exact BK141.out) hb); have n4_ := Aside0.mk (below_step (by repeat (first | (with_reducible first | exact HB.out | apply below_alloc | apply pw_below_drewN | apply below_drew1 | refine below_set ?_ GE133.out | refine below_set ?_ GE141.out) | exact HB.out)) hb); clear HO_6; clear BK133; clear BK141; clear HB; have HO_6 := n0_; have HO144 := n1_; have BK133 := n2_; have BK141 := n3_; have HB := n4_; clear n0_ n1_ n2_ n3_ n4_; (try clear hb); (try clear hb2); (try clear hk); (try clear hi); (try clear ho0); obtain ⟨Ao28, co28, eo28⟩ := Kd.R_slice HO144.out; subst eo28) | ((with_reducible refine gate_builtin (b := .append) (xs := #[.tmp 42, .tmp 48]) rfl ?_); at_builtin; refine Kd.R_append_rows k42 (w0 := w) w.heap.size rfl (.tmp 42) (.tmp 48) 32 42 (.agg #[(.int .i64 0), (.int .i64 0), (.int .i64 0)]) 24 rfl Try.underlying32 info42 rfl (by decide) (by omega) u6 x6_2 t142 _ _ _ (fun k_ => some k_ ≠ (.slice Ao28 t142.length co28 : Value).ownBlock) (fun _ => False) rfl rfl ?aO ?aR (fun _ _ h => h) (fun _ h => h.elim) ?aF ?aB ?aS ?aL ?_; (case aR => repeat (first | exact (Kd.R_reads' HO144.out).2.2 | (with_reducible refine Kd.C_alloc ?_ _) | (with_reducible refine Kd.C_drewN ?_ _) | (with_reducible refine Kd.C_drew ?_))); (case aB => exact (by repeat (first | (with_reducible first | exact HB.out | apply below_alloc | apply pw_below_drewN | apply below_drew1 | refine below_set ?_ GE133.out | refine below_set ?_ GE141.out) | exact HB.out))); (case aF => exact (fun k_ hk => Kd.fresh' (Kd.R_lt (by (with_reducible repeat (first | apply Kd.R_alloc | apply Kd.R_drewN | apply Kd.R_drew)); exact HO144.out)) k_ hk)); (case aO => exact (by (with_reducible repeat (first | apply Kd.R_alloc | apply Kd.R_drewN | apply Kd.R_drew)); exact Kd.R_mono HO_6.out (fun _ hk => hk.2))); (case aS => exact (below_size (by repeat (first | (with_reducible first | exact HB.out | apply below_alloc | apply pw_below_drewN | apply below_drew1 | refine below_set ?_ GE133.out | refine below_set ?_ GE141.out) | exact HB.out)))); (case aL => have := LMc18.out; omega); intro v146 w27 ho hb hg hat; rw [← Ny145.out] at ho; have n0_ := Aside0.mk (blk_grown (g := gb133) (o := .cells #[.int .i64 ((rd_T28 l1 x22_2).f0), .int .i64 ((rd_T28 l1 x22_2).f1), .int .i64 ((rd_T28 l1 x22_2).f2), .int .i64 ((rd_T28 l1 x22_2).f3.f0), .string ((rd_T28 l1 x22_2).f3.f1), .int .i64 ((rd_T28 l1 x22_2).f3.f2)] 28 (0, 0)) (by (with_reducible repeat (first | refine blk_drewN ?_ _ | refine blk_drew ?_ | refine blk_alloc ?_ _)); exact BK133.out) hg (Kd.R_ne HO_6.out BK133.out (by decide))); have n1_ := Aside0.mk (blk_grown (g := gb141) (o := .cells #[.string t134, .int .i64 t135, .bool t136, .bool t137, .bool t138, .int .i64 t139] 65 (0, 0)) (by (with_reducible repeat (first | refine blk_drewN ?_ _ | refine blk_drew ?_ | refine blk_alloc ?_ _)); exact BK141.out) hg (Kd.R_ne HO_6.out BK141.out (by decide))); have n2_ := Aside0.mk (Kd.R_after (ok := (fun _ => True)) (by (with_reducible repeat (first | apply Kd.R_alloc | apply Kd.R_drewN | apply Kd.R_drew)); exact HO144.out) hg hat); have n3_ := Aside0.mk (hb); have n4_ := Aside0.mk (ho); clear BK133; clear BK141; clear HO144; clear HB; clear HO_6; have BK133 := n0_; have BK141 := n1_; have HO144 := n2_; have HB := n3_; have HO147 := n4_; clear n0_ n1_ n2_ n3_ n4_; clear ho hb hg hat))
                        go_roundg k2
                        case measure => have := HJ2.out; have := HK2.out; omega
                        case rel => exact ⟨(y145), (wrap64 (x22_2 + 1)), (by first | rfl | (simp; done) | (simp [*]; done)), H', ⟨by have := HJ2.out; have := HK2.out; omega⟩, ⟨by (with_reducible repeat (first | apply Kd.R_alloc | apply Kd.R_drewN | apply Kd.R_drew)); exact Kd.R_mono HO147.out (fun _ hk => trivial)⟩, ⟨by repeat (first | (with_reducible first | exact HB.out | apply below_alloc | apply pw_below_drewN | apply below_drew1 | refine below_set ?_ GE133.out | refine below_set ?_ GE141.out) | exact HB.out)⟩⟩
                      · rw [if_neg c18] at H
                        exact absurd H (by simp)
                    · replace c16 := Bool.eq_false_iff.mpr c16
                      subst c16
                      have H1 : (some (([] : List (S42)), 16)) = some (r1, r2) := by rw [if_neg (show ¬ (false = true) by decide)] at H; exact H
                      clear H
                      have H := H1
                      clear H1
                      simp only [Option.some.injEq, Prod.mk.injEq] at H
                      obtain ⟨rfl, rfl⟩ := H
                      have p132 : 0 ≤ (x22_2 : Int) := of_decide_eq_true (by first | (with_reducible assumption) | assumption)
                      have q132 : x22_2 < (l1.length : Int) := of_decide_eq_true (by first | (with_reducible assumption) | assumption)
                      obtain ⟨ad132, e132, hx132_0, hx132_1, hx132_2, hx132_3, hx132_4, hx132_5⟩ := at_T28 HR1.out x22_2 p132 q132
                      cases e132
                      replace hx132_0 := (HB.out.cell (World.block_lt_of_cell? w _ hx132_0)).trans hx132_0
                      replace hx132_1 := (HB.out.cell (World.block_lt_of_cell? w _ hx132_1)).trans hx132_1
                      replace hx132_2 := (HB.out.cell (World.block_lt_of_cell? w _ hx132_2)).trans hx132_2
                      replace hx132_3 := (HB.out.cell (World.block_lt_of_cell? w _ hx132_3)).trans hx132_3
                      replace hx132_4 := (HB.out.cell (World.block_lt_of_cell? w _ hx132_4)).trans hx132_4
                      replace hx132_5 := (HB.out.cell (World.block_lt_of_cell? w _ hx132_5)).trans hx132_5
                      replace p132 := eq_true p132
                      replace q132 := eq_true q132
                      go_wp2_with (first | ((with_reducible refine gate_dst (N := 8) rfl ?_); refine box_event ?hg (N := 8) ?hd (cs := #[.int .i64 0, .int .i64 0, .int .i64 0, .int .i64 0, .string (⟨#[]⟩ : ByteArray), .int .i64 0]) (t := 28) ?hr ?_; (case hd => rfl); (case hg => rfl); (case hr => first | (go_simp; done) | (go_simp; rfl)); intro gb133 hg w29 hbox hb; have n0_ := Aside0.mk (Kd.R_below (by (with_reducible repeat (first | apply Kd.R_alloc | apply Kd.R_drewN | apply Kd.R_drew)); exact HO_6.out) hb); have n1_ := Aside0.mk (below_step (by repeat (first | (with_reducible first | exact HB.out | apply below_alloc | apply pw_below_drewN | apply below_drew1) | exact HB.out)) hb); have n2_ := Aside0.mk (hbox); have n3_ := Aside0.mk ((by rw [hg]; exact (below_size (by repeat (first | (with_reducible first | exact HB.out | apply below_alloc | apply pw_below_drewN | apply below_drew1) | exact HB.out))) : w.heap.size ≤ gb133)); have n4_ := Aside0.mk ((by rw [hg]; exact (below_size (by repeat (first | (with_reducible first | exact HB.out | apply below_alloc | apply pw_below_drewN | apply below_drew1) | exact HB.out))) : w.heap.size ≤ gb133)); clear HO_6; clear HB; have HO_6 := n0_; have HB := n1_; have BK133 := n2_; have GW133 := n3_; have GE133 := n4_; clear n0_ n1_ n2_ n3_ n4_; clear hb hbox hg; have hcz30_0 : w29.cell? ⟨gb133, 0, none⟩ = some (.int .i64 0) := (blk_cell BK133.out 0).trans rfl; have hcz30_1 : w29.cell? ⟨gb133, 1, none⟩ = some (.int .i64 0) := (blk_cell BK133.out 1).trans rfl; have hcz30_2 : w29.cell? ⟨gb133, 2, none⟩ = some (.int .i64 0) := (blk_cell BK133.out 2).trans rfl; have hcz30_3 : w29.cell? ⟨gb133, 3, none⟩ = some (.int .i64 0) := (blk_cell BK133.out 3).trans rfl; have hcz30_4 : w29.cell? ⟨gb133, 4, none⟩ = some (.string (⟨#[]⟩ : ByteArray)) := (blk_cell BK133.out 4).trans rfl; have hcz30_5 : w29.cell? ⟨gb133, 5, none⟩ = some (.int .i64 0) := (blk_cell BK133.out 5).trans rfl; have hfz30_0 := blk_frozen BK133.out 0; have hfz30_1 := blk_frozen BK133.out 1; have hfz30_2 := blk_frozen BK133.out 2; have hfz30_3 := blk_frozen BK133.out 3; have hfz30_4 := blk_frozen BK133.out 4; have hfz30_5 := blk_frozen BK133.out 5) | ((with_reducible refine gate_callee (f := 35) rfl ?_); refine goesL_ (some 35) rfl rfl Try.func35 (by kernel_rfl) rfl #[.slice A0 l0.length c0, .string ((rd_T28 l1 x22_2).f3.f1)] rfl (by (try simp only [List.map_toArray, List.map_cons, List.map_nil]); first | done | rfl | (simp only [List.length_drop, List.length_take]; rfl)) ?_; (with_reducible refine (wage_Find.calls k2 _ _ l0 ((rd_T28 l1 x22_2).f3.f1) t134 t135 t136 t137 t138 t139 false _ ?side1 ?side2 A15.out).mono ?_); (case side1 => exact Kd.C_below HR0.out (by repeat (first | (with_reducible first | exact HB.out | apply below_alloc | apply pw_below_drewN | apply below_drew1 | refine below_set ?_ GE133.out) | exact HB.out))); (case side2 => exact HC0.out); rintro e w31 ⟨rfl, hb⟩; refine ⟨_, rfl, ?_⟩; have n0_ := Aside0.mk (Kd.R_below (by (with_reducible repeat (first | apply Kd.R_alloc | apply Kd.R_drewN | apply Kd.R_drew)); exact (Kd.R_mono (Kd.R_far (p := ⟨gb133, 5, none⟩) (Kd.R_far (p := ⟨gb133, 4, none⟩) (Kd.R_far (p := ⟨gb133, 3, none⟩) (Kd.R_far (p := ⟨gb133, 2, none⟩) (Kd.R_far (p := ⟨gb133, 1, none⟩) (Kd.R_far (p := ⟨gb133, 0, none⟩) (Kd.R_types HO_6.out BK133.out (by decide)) (fun _ hk => hk.2) (.int .i64 ((rd_T28 l1 x22_2).f0))) (fun _ hk => hk.2) (.int .i64 ((rd_T28 l1 x22_2).f1))) (fun _ hk => hk.2) (.int .i64 ((rd_T28 l1 x22_2).f2))) (fun _ hk => hk.2) (.int .i64 ((rd_T28 l1 x22_2).f3.f0))) (fun _ hk => hk.2) (.string ((rd_T28 l1 x22_2).f3.f1))) (fun _ hk => hk.2) (.int .i64 ((rd_T28 l1 x22_2).f3.f2))) (fun _ h_ => h_.1))) hb); have n1_ := Aside0.mk (blk_below (g := gb133) (o := .cells #[.int .i64 ((rd_T28 l1 x22_2).f0), .int .i64 ((rd_T28 l1 x22_2).f1), .int .i64 ((rd_T28 l1 x22_2).f2), .int .i64 ((rd_T28 l1 x22_2).f3.f0), .string ((rd_T28 l1 x22_2).f3.f1), .int .i64 ((rd_T28 l1 x22_2).f3.f2)] 28 (0, 0)) (by (with_reducible repeat (first | refine blk_drewN ?_ _ | refine blk_drew ?_ | refine blk_alloc ?_ _)); refine blk_put (cs := #[.int .i64 ((rd_T28 l1 x22_2).f0), .int .i64 ((rd_T28 l1 x22_2).f1), .int .i64 ((rd_T28 l1 x22_2).f2), .int .i64 ((rd_T28 l1 x22_2).f3.f0), .string ((rd_T28 l1 x22_2).f3.f1), .int .i64 0]) ?_ 5 _ rfl; (with_reducible repeat (first | refine blk_drewN ?_ _ | refine blk_drew ?_ | refine blk_alloc ?_ _)); refine blk_put (cs := #[.int .i64 ((rd_T28 l1 x22_2).f0), .int .i64 ((rd_T28 l1 x22_2).f1), .int .i64 ((rd_T28 l1 x22_2).f2), .int .i64 ((rd_T28 l1 x22_2).f3.f0), .string (⟨#[]⟩ : ByteArray), .int .i64 0]) ?_ 4 _ rfl; (with_reducible repeat (first | refine blk_drewN ?_ _ | refine blk_drew ?_ | refine blk_alloc ?_ _)); refine blk_put (cs := #[.int .i64 ((rd_T28 l1 x22_2).f0), .int .i64 ((rd_T28 l1 x22_2).f1), .int .i64 ((rd_T28 l1 x22_2).f2), .int .i64 0, .string (⟨#[]⟩ : ByteArray), .int .i64 0]) ?_ 3 _ rfl; (with_reducible repeat (first | refine blk_drewN ?_ _ | refine blk_drew ?_ | refine blk_alloc ?_ _)); refine blk_put (cs := #[.int .i64 ((rd_T28 l1 x22_2).f0), .int .i64 ((rd_T28 l1 x22_2).f1), .int .i64 0, .int .i64 0, .string (⟨#[]⟩ : ByteArray), .int .i64 0]) ?_ 2 _ rfl; (with_reducible repeat (first | refine blk_drewN ?_ _ | refine blk_drew ?_ | refine blk_alloc ?_ _)); refine blk_put (cs := #[.int .i64 ((rd_T28 l1 x22_2).f0), .int .i64 0, .int .i64 0, .int .i64 0, .string (⟨#[]⟩ : ByteArray), .int .i64 0]) ?_ 1 _ rfl; (with_reducible repeat (first | refine blk_drewN ?_ _ | refine blk_drew ?_ | refine blk_alloc ?_ _)); refine blk_put (cs := #[.int .i64 0, .int .i64 0, .int .i64 0, .int .i64 0, .string (⟨#[]⟩ : ByteArray), .int .i64 0]) ?_ 0 _ rfl; (with_reducible repeat (first | refine blk_drewN ?_ _ | refine blk_drew ?_ | refine blk_alloc ?_ _)); exact BK133.out) hb); have n2_ := Aside0.mk (below_step (by repeat (first | (with_reducible first | exact HB.out | apply below_alloc | apply pw_below_drewN | apply below_drew1 | refine below_set ?_ GE133.out) | exact HB.out)) hb); clear HO_6; clear BK133; clear HB; have HO_6 := n0_; have BK133 := n1_; have HB := n2_; clear n0_ n1_ n2_; (try clear hb); (try clear hb2); (try clear hk); (try clear hi)) | ((with_reducible refine gate_dst (N := 10) rfl ?_); refine box_event ?hg (N := 10) ?hd (cs := #[.string (⟨#[]⟩ : ByteArray), .int .i64 0, .bool false, .bool false, .bool false, .int .i64 0]) (t := 65) ?hr ?_; (case hd => rfl); (case hg => rfl); (case hr => first | (go_simp; done) | (go_simp; rfl)); intro gb141 hg w32 hbox hb; have n0_ := Aside0.mk (Kd.R_below (by (with_reducible repeat (first | apply Kd.R_alloc | apply Kd.R_drewN | apply Kd.R_drew)); exact HO_6.out) hb); have n1_ := Aside0.mk (blk_below (g := gb133) (o := .cells #[.int .i64 ((rd_T28 l1 x22_2).f0), .int .i64 ((rd_T28 l1 x22_2).f1), .int .i64 ((rd_T28 l1 x22_2).f2), .int .i64 ((rd_T28 l1 x22_2).f3.f0), .string ((rd_T28 l1 x22_2).f3.f1), .int .i64 ((rd_T28 l1 x22_2).f3.f2)] 28 (0, 0)) (by (with_reducible repeat (first | refine blk_drewN ?_ _ | refine blk_drew ?_ | refine blk_alloc ?_ _)); exact BK133.out) hb); have n2_ := Aside0.mk (below_step (by repeat (first | (with_reducible first | exact HB.out | apply below_alloc | apply pw_below_drewN | apply below_drew1 | refine below_set ?_ GE133.out) | exact HB.out)) hb); have n3_ := Aside0.mk (hbox); have n4_ := Aside0.mk ((by rw [hg]; exact (below_size (by repeat (first | (with_reducible first | exact HB.out | apply below_alloc | apply pw_below_drewN | apply below_drew1 | refine below_set ?_ GE133.out) | exact HB.out))) : w.heap.size ≤ gb141)); have n5_ := Aside0.mk ((by rw [hg]; exact (below_size (by repeat (first | (with_reducible first | exact HB.out | apply below_alloc | apply pw_below_drewN | apply below_drew1 | refine below_set ?_ GE133.out) | exact HB.out))) : w.heap.size ≤ gb141)); have n6_ := Aside0.mk ((by rw [hg]; exact Nat.ne_of_lt (blk_lt (g := gb133) (o := .cells #[.int .i64 ((rd_T28 l1 x22_2).f0), .int .i64 ((rd_T28 l1 x22_2).f1), .int .i64 ((rd_T28 l1 x22_2).f2), .int .i64 ((rd_T28 l1 x22_2).f3.f0), .string ((rd_T28 l1 x22_2).f3.f1), .int .i64 ((rd_T28 l1 x22_2).f3.f2)] 28 (0, 0)) (by (with_reducible repeat (first | refine blk_drewN ?_ _ | refine blk_drew ?_ | refine blk_alloc ?_ _)); exact BK133.out)) : gb133 ≠ gb141)); have n7_ := Aside0.mk ((by rw [hg]; exact Nat.ne_of_gt (blk_lt (g := gb133) (o := .cells #[.int .i64 ((rd_T28 l1 x22_2).f0), .int .i64 ((rd_T28 l1 x22_2).f1), .int .i64 ((rd_T28 l1 x22_2).f2), .int .i64 ((rd_T28 l1 x22_2).f3.f0), .string ((rd_T28 l1 x22_2).f3.f1), .int .i64 ((rd_T28 l1 x22_2).f3.f2)] 28 (0, 0)) (by (with_reducible repeat (first | refine blk_drewN ?_ _ | refine blk_drew ?_ | refine blk_alloc ?_ _)); exact BK133.out)) : gb141 ≠ gb133)); clear HO_6; clear BK133; clear HB; have HO_6 := n0_; have BK133 := n1_; have HB := n2_; have BK141 := n3_; have GW141 := n4_; have GE141 := n5_; have NB133_141 := n6_; have NB141_133 := n7_; clear n0_ n1_ n2_ n3_ n4_ n5_ n6_ n7_; clear hb hbox hg; have hnb33 := NB141_133.out; have hnc33 := NB133_141.out; have hcz34_0 : w32.cell? ⟨gb141, 0, none⟩ = some (.string (⟨#[]⟩ : ByteArray)) := (blk_cell BK141.out 0).trans rfl; have hcz34_1 : w32.cell? ⟨gb141, 1, none⟩ = some (.int .i64 0) := (blk_cell BK141.out 1).trans rfl; have hcz34_2 : w32.cell? ⟨gb141, 2, none⟩ = some (.bool false) := (blk_cell BK141.out 2).trans rfl; have hcz34_3 : w32.cell? ⟨gb141, 3, none⟩ = some (.bool false) := (blk_cell BK141.out 3).trans rfl; have hcz34_4 : w32.cell? ⟨gb141, 4, none⟩ = some (.bool false) := (blk_cell BK141.out 4).trans rfl; have hcz34_5 : w32.cell? ⟨gb141, 5, none⟩ = some (.int .i64 0) := (blk_cell BK141.out 5).trans rfl; have hfz34_0 := blk_frozen BK141.out 0; have hfz34_1 := blk_frozen BK141.out 1; have hfz34_2 := blk_frozen BK141.out 2; have hfz34_3 := blk_frozen BK141.out 3; have hfz34_4 := blk_frozen BK141.out 4; have hfz34_5 := blk_frozen BK141.out 5))
                      go_ret2
                      exact ⟨_, by first | rfl | (simp [errW_none, errW_some] <;> rfl) | (simp [*, errW_none, errW_some] <;> rfl), by first | exact Kd.R_nil _ _ _ _ _ | exact Kd.N_nil _ _ _ _ _ | exact Kd.V_nil _ _ _ _ _ | exact Kd.Q_nil _ _ _ _ _ | exact Kd.S_nil _ _ _ _ _, by repeat (first | (with_reducible first | exact HB.out | apply below_alloc | apply pw_below_drewN | apply below_drew1 | refine below_set ?_ GE133.out | refine below_set ?_ GE141.out) | exact HB.out)⟩
                  · rw [if_neg c14] at H
                    have c14b0 : (((rd_T28 l1 x22_2).f3.f0) == 1) = false := beq_eq_false_iff_ne.mpr c14
                    have c14b1 : (((rd_T28 l1 x22_2).f3.f0) != 1) = true := bne_iff_ne.mpr c14
                    replace H := Option.bind_eq_some_iff.mp H
                    obtain ⟨t148, A350, H⟩ := H
                    replace H : (if x6_2.length + t148.length < 5864062014805 then (ledger_Entries.l0 k2 l0 (x6_2 ++ t148) l1 (l1.length : Int) (wrap64 (x22_2 + 1))) else (none)) = some (r1, r2) := H
                    have A35 := Aside0.mk A350
                    clear A350
                    by_cases c36 : x6_2.length + t148.length < 5864062014805
                    · rw [if_pos c36] at H
                      have LMc36 := Aside0.mk c36
                      clear c36
                      obtain ⟨y151, hy151⟩ : ∃ y_ : List (S42), y_ = (x6_2 ++ t148) := ⟨_, rfl⟩
                      replace H : (ledger_Entries.l0 k2 l0 y151 l1 (l1.length : Int) (wrap64 (x22_2 + 1))) = some (r1, r2) := by first | (rw [hy151]; with_reducible exact H) | (have H2_ := (Option.bind_some _ _).symm.trans H; rw [hy151]; with_reducible exact H2_) | (have H2_ := (Option.bind_some _ _).symm.trans H; with_reducible exact H2_) | with_reducible exact H | (rw [hy151]; exact H) | exact H
                      have Ny151 := Aside0.mk hy151
                      clear hy151
                      have H' := Aside0.mk H
                      clear H
                      have p132 : 0 ≤ (x22_2 : Int) := of_decide_eq_true (by first | (with_reducible assumption) | assumption)
                      have q132 : x22_2 < (l1.length : Int) := of_decide_eq_true (by first | (with_reducible assumption) | assumption)
                      obtain ⟨ad132, e132, hx132_0, hx132_1, hx132_2, hx132_3, hx132_4, hx132_5⟩ := at_T28 HR1.out x22_2 p132 q132
                      cases e132
                      replace hx132_0 := (HB.out.cell (World.block_lt_of_cell? w _ hx132_0)).trans hx132_0
                      replace hx132_1 := (HB.out.cell (World.block_lt_of_cell? w _ hx132_1)).trans hx132_1
                      replace hx132_2 := (HB.out.cell (World.block_lt_of_cell? w _ hx132_2)).trans hx132_2
                      replace hx132_3 := (HB.out.cell (World.block_lt_of_cell? w _ hx132_3)).trans hx132_3
                      replace hx132_4 := (HB.out.cell (World.block_lt_of_cell? w _ hx132_4)).trans hx132_4
                      replace hx132_5 := (HB.out.cell (World.block_lt_of_cell? w _ hx132_5)).trans hx132_5
                      replace p132 := eq_true p132
                      replace q132 := eq_true q132
                      go_wp2_with (first | ((with_reducible refine gate_dst (N := 8) rfl ?_); refine box_event ?hg (N := 8) ?hd (cs := #[.int .i64 0, .int .i64 0, .int .i64 0, .int .i64 0, .string (⟨#[]⟩ : ByteArray), .int .i64 0]) (t := 28) ?hr ?_; (case hd => rfl); (case hg => rfl); (case hr => first | (go_simp; done) | (go_simp; rfl)); intro gb133 hg w37 hbox hb; have n0_ := Aside0.mk (Kd.R_below (by (with_reducible repeat (first | apply Kd.R_alloc | apply Kd.R_drewN | apply Kd.R_drew)); exact HO_6.out) hb); have n1_ := Aside0.mk (below_step (by repeat (first | (with_reducible first | exact HB.out | apply below_alloc | apply pw_below_drewN | apply below_drew1) | exact HB.out)) hb); have n2_ := Aside0.mk (hbox); have n3_ := Aside0.mk ((by rw [hg]; exact (below_size (by repeat (first | (with_reducible first | exact HB.out | apply below_alloc | apply pw_below_drewN | apply below_drew1) | exact HB.out))) : w.heap.size ≤ gb133)); have n4_ := Aside0.mk ((by rw [hg]; exact (below_size (by repeat (first | (with_reducible first | exact HB.out | apply below_alloc | apply pw_below_drewN | apply below_drew1) | exact HB.out))) : w.heap.size ≤ gb133)); clear HO_6; clear HB; have HO_6 := n0_; have HB := n1_; have BK133 := n2_; have GW133 := n3_; have GE133 := n4_; clear n0_ n1_ n2_ n3_ n4_; clear hb hbox hg; have hcz38_0 : w37.cell? ⟨gb133, 0, none⟩ = some (.int .i64 0) := (blk_cell BK133.out 0).trans rfl; have hcz38_1 : w37.cell? ⟨gb133, 1, none⟩ = some (.int .i64 0) := (blk_cell BK133.out 1).trans rfl; have hcz38_2 : w37.cell? ⟨gb133, 2, none⟩ = some (.int .i64 0) := (blk_cell BK133.out 2).trans rfl; have hcz38_3 : w37.cell? ⟨gb133, 3, none⟩ = some (.int .i64 0) := (blk_cell BK133.out 3).trans rfl; have hcz38_4 : w37.cell? ⟨gb133, 4, none⟩ = some (.string (⟨#[]⟩ : ByteArray)) := (blk_cell BK133.out 4).trans rfl; have hcz38_5 : w37.cell? ⟨gb133, 5, none⟩ = some (.int .i64 0) := (blk_cell BK133.out 5).trans rfl; have hfz38_0 := blk_frozen BK133.out 0; have hfz38_1 := blk_frozen BK133.out 1; have hfz38_2 := blk_frozen BK133.out 2; have hfz38_3 := blk_frozen BK133.out 3; have hfz38_4 := blk_frozen BK133.out 4; have hfz38_5 := blk_frozen BK133.out 5) | ((with_reducible refine gate_callee (f := 36) rfl ?_); refine goesL_ (some 48) rfl rfl Try.func36 (by kernel_rfl) rfl #[.int .i64 ((rd_T28 l1 x22_2).f0), .agg #[.int .i64 ((rd_T28 l1 x22_2).f3.f0), .string ((rd_T28 l1 x22_2).f3.f1), .int .i64 ((rd_T28 l1 x22_2).f3.f2)], .int .i64 0] rfl (by (try simp only [List.map_toArray, List.map_cons, List.map_nil]); first | done | rfl | (simp only [List.length_drop, List.length_take]; rfl)) ?_; (with_reducible refine (ledger_entries.calls ((rd_T28 l1 x22_2).f0) ((rd_T28 l1 x22_2).f3.f0) ((rd_T28 l1 x22_2).f3.f1) ((rd_T28 l1 x22_2).f3.f2) 0 t148 _ A35.out).mono ?_); rintro e w39 ⟨v149, rfl, ho0, hb⟩; refine ⟨_, rfl, ?_⟩; have n0_ := Aside0.mk (Kd.R_elder' (by (with_reducible repeat (first | apply Kd.R_alloc | apply Kd.R_drewN | apply Kd.R_drew)); exact (Kd.R_mono (Kd.R_far (p := ⟨gb133, 5, none⟩) (Kd.R_far (p := ⟨gb133, 4, none⟩) (Kd.R_far (p := ⟨gb133, 3, none⟩) (Kd.R_far (p := ⟨gb133, 2, none⟩) (Kd.R_far (p := ⟨gb133, 1, none⟩) (Kd.R_far (p := ⟨gb133, 0, none⟩) (Kd.R_types HO_6.out BK133.out (by decide)) (fun _ hk => hk.2) (.int .i64 ((rd_T28 l1 x22_2).f0))) (fun _ hk => hk.2) (.int .i64 ((rd_T28 l1 x22_2).f1))) (fun _ hk => hk.2) (.int .i64 ((rd_T28 l1 x22_2).f2))) (fun _ hk => hk.2) (.int .i64 ((rd_T28 l1 x22_2).f3.f0))) (fun _ hk => hk.2) (.string ((rd_T28 l1 x22_2).f3.f1))) (fun _ hk => hk.2) (.int .i64 ((rd_T28 l1 x22_2).f3.f2))) (fun _ h_ => h_.1))) (Kd.R_base ho0) hb); have n1_ := Aside0.mk (Kd.R_lower (Kd.R_new' ho0 (Kd.R_lt (by (with_reducible repeat (first | apply Kd.R_alloc | apply Kd.R_drewN | apply Kd.R_drew)); exact (Kd.R_mono (Kd.R_far (p := ⟨gb133, 5, none⟩) (Kd.R_far (p := ⟨gb133, 4, none⟩) (Kd.R_far (p := ⟨gb133, 3, none⟩) (Kd.R_far (p := ⟨gb133, 2, none⟩) (Kd.R_far (p := ⟨gb133, 1, none⟩) (Kd.R_far (p := ⟨gb133, 0, none⟩) (Kd.R_types HO_6.out BK133.out (by decide)) (fun _ hk => hk.2) (.int .i64 ((rd_T28 l1 x22_2).f0))) (fun _ hk => hk.2) (.int .i64 ((rd_T28 l1 x22_2).f1))) (fun _ hk => hk.2) (.int .i64 ((rd_T28 l1 x22_2).f2))) (fun _ hk => hk.2) (.int .i64 ((rd_T28 l1 x22_2).f3.f0))) (fun _ hk => hk.2) (.string ((rd_T28 l1 x22_2).f3.f1))) (fun _ hk => hk.2) (.int .i64 ((rd_T28 l1 x22_2).f3.f2))) (fun _ h_ => h_.1))))) (below_size (by repeat (first | (with_reducible first | exact HB.out | apply below_alloc | apply pw_below_drewN | apply below_drew1 | refine below_set ?_ GE133.out) | exact HB.out)))); have n2_ := Aside0.mk (blk_below (g := gb133) (o := .cells #[.int .i64 ((rd_T28 l1 x22_2).f0), .int .i64 ((rd_T28 l1 x22_2).f1), .int .i64 ((rd_T28 l1 x22_2).f2), .int .i64 ((rd_T28 l1 x22_2).f3.f0), .string ((rd_T28 l1 x22_2).f3.f1), .int .i64 ((rd_T28 l1 x22_2).f3.f2)] 28 (0, 0)) (by (with_reducible repeat (first | refine blk_drewN ?_ _ | refine blk_drew ?_ | refine blk_alloc ?_ _)); refine blk_put (cs := #[.int .i64 ((rd_T28 l1 x22_2).f0), .int .i64 ((rd_T28 l1 x22_2).f1), .int .i64 ((rd_T28 l1 x22_2).f2), .int .i64 ((rd_T28 l1 x22_2).f3.f0), .string ((rd_T28 l1 x22_2).f3.f1), .int .i64 0]) ?_ 5 _ rfl; (with_reducible repeat (first | refine blk_drewN ?_ _ | refine blk_drew ?_ | refine blk_alloc ?_ _)); refine blk_put (cs := #[.int .i64 ((rd_T28 l1 x22_2).f0), .int .i64 ((rd_T28 l1 x22_2).f1), .int .i64 ((rd_T28 l1 x22_2).f2), .int .i64 ((rd_T28 l1 x22_2).f3.f0), .string (⟨#[]⟩ : ByteArray), .int .i64 0]) ?_ 4 _ rfl; (with_reducible repeat (first | refine blk_drewN ?_ _ | refine blk_drew ?_ | refine blk_alloc ?_ _)); refine blk_put (cs := #[.int .i64 ((rd_T28 l1 x22_2).f0), .int .i64 ((rd_T28 l1 x22_2).f1), .int .i64 ((rd_T28 l1 x22_2).f2), .int .i64 0, .string (⟨#[]⟩ : ByteArray), .int .i64 0]) ?_ 3 _ rfl; (with_reducible repeat (first | refine blk_drewN ?_ _ | refine blk_drew ?_ | refine blk_alloc ?_ _)); refine blk_put (cs := #[.int .i64 ((rd_T28 l1 x22_2).f0), .int .i64 ((rd_T28 l1 x22_2).f1), .int .i64 0, .int .i64 0, .string (⟨#[]⟩ : ByteArray), .int .i64 0]) ?_ 2 _ rfl; (with_reducible repeat (first | refine blk_drewN ?_ _ | refine blk_drew ?_ | refine blk_alloc ?_ _)); refine blk_put (cs := #[.int .i64 ((rd_T28 l1 x22_2).f0), .int .i64 0, .int .i64 0, .int .i64 0, .string (⟨#[]⟩ : ByteArray), .int .i64 0]) ?_ 1 _ rfl; (with_reducible repeat (first | refine blk_drewN ?_ _ | refine blk_drew ?_ | refine blk_alloc ?_ _)); refine blk_put (cs := #[.int .i64 0, .int .i64 0, .int .i64 0, .int .i64 0, .string (⟨#[]⟩ : ByteArray), .int .i64 0]) ?_ 0 _ rfl; (with_reducible repeat (first | refine blk_drewN ?_ _ | refine blk_drew ?_ | refine blk_alloc ?_ _)); exact BK133.out) hb); have n3_ := Aside0.mk (below_step (by repeat (first | (with_reducible first | exact HB.out | apply below_alloc | apply pw_below_drewN | apply below_drew1 | refine below_set ?_ GE133.out) | exact HB.out)) hb); clear HO_6; clear BK133; clear HB; have HO_6 := n0_; have HO150 := n1_; have BK133 := n2_; have HB := n3_; clear n0_ n1_ n2_ n3_; (try clear hb); (try clear hb2); (try clear hk); (try clear hi); (try clear ho0); obtain ⟨Ao41, co41, eo41⟩ := Kd.R_slice HO150.out; subst eo41) | ((with_reducible refine gate_builtin (b := .append) (xs := #[.tmp 42, .tmp 48]) rfl ?_); at_builtin; refine Kd.R_append_rows k42 (w0 := w) w.heap.size rfl (.tmp 42) (.tmp 48) 32 42 (.agg #[(.int .i64 0), (.int .i64 0), (.int .i64 0)]) 24 rfl Try.underlying32 info42 rfl (by decide) (by omega) u6 x6_2 t148 _ _ _ (fun k_ => some k_ ≠ (.slice Ao41 t148.length co41 : Value).ownBlock) (fun _ => False) rfl rfl ?aO ?aR (fun _ _ h => h) (fun _ h => h.elim) ?aF ?aB ?aS ?aL ?_; (case aR => repeat (first | exact (Kd.R_reads' HO150.out).2.2 | (with_reducible refine Kd.C_alloc ?_ _) | (with_reducible refine Kd.C_drewN ?_ _) | (with_reducible refine Kd.C_drew ?_))); (case aB => exact (by repeat (first | (with_reducible first | exact HB.out | apply below_alloc | apply pw_below_drewN | apply below_drew1 | refine below_set ?_ GE133.out) | exact HB.out))); (case aF => exact (fun k_ hk => Kd.fresh' (Kd.R_lt (by (with_reducible repeat (first | apply Kd.R_alloc | apply Kd.R_drewN | apply Kd.R_drew)); exact HO150.out)) k_ hk)); (case aO => exact (by (with_reducible repeat (first | apply Kd.R_alloc | apply Kd.R_drewN | apply Kd.R_drew)); exact Kd.R_mono HO_6.out (fun _ hk => hk.2))); (case aS => exact (below_size (by repeat (first | (with_reducible first | exact HB.out | apply below_alloc | apply pw_below_drewN | apply below_drew1 | refine below_set ?_ GE133.out) | exact HB.out)))); (case aL => have := LMc36.out; omega); intro v152 w40 ho hb hg hat; rw [← Ny151.out] at ho; have n0_ := Aside0.mk (blk_grown (g := gb133) (o := .cells #[.int .i64 ((rd_T28 l1 x22_2).f0), .int .i64 ((rd_T28 l1 x22_2).f1), .int .i64 ((rd_T28 l1 x22_2).f2), .int .i64 ((rd_T28 l1 x22_2).f3.f0), .string ((rd_T28 l1 x22_2).f3.f1), .int .i64 ((rd_T28 l1 x22_2).f3.f2)] 28 (0, 0)) (by (with_reducible repeat (first | refine blk_drewN ?_ _ | refine blk_drew ?_ | refine blk_alloc ?_ _)); exact BK133.out) hg (Kd.R_ne HO_6.out BK133.out (by decide))); have n1_ := Aside0.mk (Kd.R_after (ok := (fun _ => True)) (by (with_reducible repeat (first | apply Kd.R_alloc | apply Kd.R_drewN | apply Kd.R_drew)); exact HO150.out) hg hat); have n2_ := Aside0.mk (hb); have n3_ := Aside0.mk (ho); clear BK133; clear HO150; clear HB; clear HO_6; have BK133 := n0_; have HO150 := n1_; have HB := n2_; have HO153 := n3_; clear n0_ n1_ n2_ n3_; clear ho hb hg hat))
                      go_roundg k2
                      case measure => have := HJ2.out; have := HK2.out; omega
                      case rel => exact ⟨(y151), (wrap64 (x22_2 + 1)), (by first | rfl | (simp; done) | (simp [*]; done)), H', ⟨by have := HJ2.out; have := HK2.out; omega⟩, ⟨by (with_reducible repeat (first | apply Kd.R_alloc | apply Kd.R_drewN | apply Kd.R_drew)); exact Kd.R_mono HO153.out (fun _ hk => trivial)⟩, ⟨by repeat (first | (with_reducible first | exact HB.out | apply below_alloc | apply pw_below_drewN | apply below_drew1 | refine below_set ?_ GE133.out) | exact HB.out)⟩⟩
                    · rw [if_neg c36] at H
                      exact absurd H (by simp)
                · rw [if_neg c13] at H
                  exact absurd H (by simp)
              · rw [if_neg c12] at H
                exact absurd H (by simp)
            · rw [if_neg c11] at H
              have c11b0 : decide (x22_2 < (l1.length : Int)) = false := decide_eq_false c11
              clear c11
              replace H := Option.bind_eq_some_iff.mp H
              obtain ⟨⟨t128, t129⟩, A420, H⟩ := H
              replace H : (some (t128, t129)) = some (r1, r2) := H
              have A42 := Aside0.mk A420
              clear A420
              simp only [Option.some.injEq, Prod.mk.injEq] at H
              obtain ⟨rfl, rfl⟩ := H
              obtain ⟨Ao43, co43, eo43⟩ := Kd.R_slice HO_6.out
              subst eo43
              go_wp2_with (first | ((with_reducible refine gate_callee (f := 18) rfl ?_); refine goesL_ (some 52) rfl rfl Try.func18 (by kernel_rfl) rfl #[.slice Ao43 x6_2.length co43] rfl (by (try simp only [List.map_toArray, List.map_cons, List.map_nil]); first | done | rfl | (simp only [List.length_drop, List.length_take]; rfl)) ?_; (with_reducible refine (ledger_Merge.calls _ _ x6_2 t128 t129 _ ?side1 ?side2 A42.out).mono ?_); (case side1 => repeat (first | exact (Kd.R_reads' HO_6.out).2.2 | (with_reducible refine Kd.C_alloc ?_ _) | (with_reducible refine Kd.C_drewN ?_ _) | (with_reducible refine Kd.C_drew ?_))); (case side2 => exact (Kd.R_reads' HO_6.out).2.1); rintro e w44 ⟨v130, rfl, ho0, hb⟩; refine ⟨_, rfl, ?_⟩; have n0_ := Aside0.mk (Kd.R_elder' (by (with_reducible repeat (first | apply Kd.R_alloc | apply Kd.R_drewN | apply Kd.R_drew)); exact HO_6.out) (Kd.R_base ho0) hb); have n1_ := Aside0.mk (Kd.R_lower (Kd.R_new' ho0 (Kd.R_lt (by (with_reducible repeat (first | apply Kd.R_alloc | apply Kd.R_drewN | apply Kd.R_drew)); exact HO_6.out))) (below_size (by repeat (first | (with_reducible first | exact HB.out | apply below_alloc | apply pw_below_drewN | apply below_drew1) | exact HB.out)))); have n2_ := Aside0.mk (below_step (by repeat (first | (with_reducible first | exact HB.out | apply below_alloc | apply pw_below_drewN | apply below_drew1) | exact HB.out)) hb); clear HO_6; clear HB; have HO_6 := n0_; have HO131 := n1_; have HB := n2_; clear n0_ n1_ n2_; (try clear hb); (try clear hb2); (try clear hk); (try clear hi); (try clear ho0)))
              go_ret2
              exact ⟨_, by first | rfl | (simp [errW_none, errW_some] <;> rfl) | (simp [*, errW_none, errW_some] <;> rfl), by (with_reducible repeat (first | apply Kd.R_alloc | apply Kd.R_drewN | apply Kd.R_drew)); exact Kd.R_mono HO131.out (fun _ hk => trivial), by repeat (first | (with_reducible first | exact HB.out | apply below_alloc | apply pw_below_drewN | apply below_drew1) | exact HB.out)⟩

/-! ### payrolllaw44_base: function 15 -/
def payrolllaw44_base.f  : Option ((List (S65))) := some (([(⟨(⟨#[98, 97, 115, 101]⟩ : ByteArray), 1, false, false, false, 4000⟩ : S65)] : List (S65)))
set_option maxHeartbeats 8000000 in
set_option maxRecDepth 100000 in
theorem payrolllaw44_base.calls  (r : List (S65)) (w : World) (h : payrolllaw44_base.f  = some r) :
    Calls Try.prog 15 #[] w fun e w' => ∃ v0_ : Value, e = .returned (v0_) ∧ Kd.R k65 65 w' w.heap.size (fun _ => True) v0_ r ∧ Below w.heap.size w w' := by
  have hu65 := Try.underlying65
  have HB := Aside0.mk (Below.refl w.heap.size w)
  have H : (some (([(⟨(⟨#[98, 97, 115, 101]⟩ : ByteArray), 1, false, false, false, 4000⟩ : S65)] : List (S65)))) = some r := h
  clear h
  obtain ⟨y154, hy154⟩ : ∃ y_ : List (S65), y_ = (([(⟨(⟨#[98, 97, 115, 101]⟩ : ByteArray), 1, false, false, false, 4000⟩ : S65)] : List (S65))) := ⟨_, rfl⟩
  replace H : (some y154) = some r := by first | (rw [hy154]; with_reducible exact H) | (have H2_ := (Option.bind_some _ _).symm.trans H; rw [hy154]; with_reducible exact H2_) | (have H2_ := (Option.bind_some _ _).symm.trans H; with_reducible exact H2_) | with_reducible exact H | (rw [hy154]; exact H) | exact H
  have Ny154 := Aside0.mk hy154
  clear hy154
  obtain rfl := Option.some.inj H
  go_enter Try.func15, Try.ntmps15
  go_wp2_with (first | ((with_reducible refine gate_dst (N := 2) rfl ?_); refine Kd.R_lit k65 _ 65 ?hg (N := 2) ?hd (xs := ([(⟨(⟨#[98, 97, 115, 101]⟩ : ByteArray), 1, false, false, false, 4000⟩ : S65)] : List (S65))) (inner := [.string (⟨#[98, 97, 115, 101]⟩ : ByteArray), .int .i64 1, .bool false, .bool false, .bool false, .int .i64 4000]) (ok := fun _ => True) (okp := fun _ => True) ?hr ?hp (fun _ hk => hk) trivial (Below.refl _ _) (Nat.le_refl _) (by simp) ?_; (case hd => rfl); (case hg => rfl); (case hr => first | (go_simp; done) | (go_simp; rfl)); (case hp => exact (Reps.c6 (show Kd.M k65 _ _ _ (⟨(⟨#[98, 97, 115, 101]⟩ : ByteArray), 1, false, false, false, 4000⟩ : S65) [.string (⟨#[98, 97, 115, 101]⟩ : ByteArray), .int .i64 1, .bool false, .bool false, .bool false, .int .i64 4000] from (k65_mkM _ _ _ (⟨(⟨#[98, 97, 115, 101]⟩ : ByteArray), 1, false, false, false, 4000⟩ : S65) )) (Reps.none _ _))); intro v155 w1 ho2 hb hg_ hnew_; clear hg_ hnew_; (first | rw [← Ny154.out] at ho2 | (simp only [Int.reduceToNat] at ho2; rw [← Ny154.out] at ho2)); have n0_ := Aside0.mk (Kd.R_lower ho2 (below_size (by repeat (first | (with_reducible first | exact HB.out | apply below_alloc | apply pw_below_drewN | apply below_drew1) | exact HB.out)))); have n1_ := Aside0.mk (below_step (by repeat (first | (with_reducible first | exact HB.out | apply below_alloc | apply pw_below_drewN | apply below_drew1) | exact HB.out)) hb); clear HB; have HO156 := n0_; have HB := n1_; clear n0_ n1_; clear hb ho2))
  go_ret
  exact ⟨_, by first | rfl | (simp [errW_none, errW_some] <;> rfl) | (simp [*, errW_none, errW_some] <;> rfl), by (with_reducible repeat (first | apply Kd.R_alloc | apply Kd.R_drewN | apply Kd.R_drew)); exact HO156.out, by repeat (first | (with_reducible first | exact HB.out | apply below_alloc | apply pw_below_drewN | apply below_drew1) | exact HB.out)⟩

/-! ### ledger_Balanced: function 20 -/
section LBalExt
open Go.Proofs.Ytfakedchahildaa.MapKit Go.Proofs.Ytfakedchahildaa.ListKit Go.Proofs.Ytfakedchahildaa.SortKit
def runB (x : S42) : Int := x.f0
/-- The sums of the amounts of each run, ascending. -/
def runsB (l : List S42) : List (Int × Int) := addsG ltI runB amtB [] l
def balB (l : List S42) : Bool := if (mergeB l).2 = 0 then (runsB (mergeB l).1).all (fun p => decide (p.2 = 0)) else false
def ledger_Balanced.f (l : List S42) : Option Bool := some (balB l)
theorem merge_keys (l : List S42) : (mergeB l).1.length ≤ 131072 ∧ ∀ y ∈ (mergeB l).1, 0 ≤ y.f0 ∧ y.f0 ≤ 256 := by
  unfold mergeB
  by_cases c1 : (l.length : Int) > 131072
  · rw [if_pos c1]; exact ⟨by simp, by simp⟩
  rw [if_neg c1]
  by_cases c2 : l.all okB = true
  · rw [if_pos c2]
    by_cases c3 : (sumsB l).all (fun p => tot p.2) = true
    · rw [if_pos c3]
      refine ⟨Nat.le_trans (keepG_len _ _) (Nat.le_trans (sumsB_len l) (by omega)), fun y hy => ?_⟩
      obtain ⟨⟨k, v⟩, hp, rfl⟩ := List.mem_map.1 hy
      have h1 := lookup_of_mem ((sumsB_asc l).nodup orderK) (List.mem_filter.1 hp).1
      unfold sumsB at h1
      rw [addsG_nil_lookup] at h1
      by_cases hh : hasG keyB l k = true
      · obtain ⟨x, hx, hk⟩ := List.any_eq_true.1 hh
        have hk : keyB x = k := of_decide_eq_true hk
        have := ((okB_iff x).1 (List.all_eq_true.1 c2 x hx)).1
        subst hk
        exact ⟨this.1, this.2.1⟩
      · rw [if_neg hh] at h1; cases h1
    · rw [if_neg c3]; exact ⟨by simp, by simp⟩
  · rw [if_neg c2]; exact ⟨by simp, by simp⟩
theorem runsB_asc (l : List S42) : Asc ltI (runsB l) := addsG_asc orderI l [] List.Pairwise.nil
theorem runsB_len (l : List S42) : (runsB l).length ≤ l.length := by have := addsG_len (lt := ltI) (f := runB) (g := amtB) l []; simpa [runsB] using this
noncomputable def runMK := MK.ii Try.prog 78 3 3 .i64 .i64 Try.underlying3 Try.underlying3 Try.underlying78
set_option maxHeartbeats 8000000 in
set_option maxRecDepth 100000 in
theorem ledger_Balanced.calls (A0 : Option Addr) (c0 : Nat) (l0 : List S42) (r : Bool) (w : World) (hr0 : Kd.C k42 w A0 l0.length l0) (hc0 : l0.length ≤ c0) (h : ledger_Balanced.f l0 = some r) :
    Calls Try.prog 20 #[.slice A0 l0.length c0] w fun e w' => e = .returned (.bool r) ∧ Below w.heap.size w w' := by
  have hu44 := Try.underlying42
  have HR0 := Aside0.mk hr0
  have HC0 := Aside0.mk hc0
  clear hr0 hc0
  replace h := Option.some.inj h
  unfold balB at h
  obtain ⟨m, hm⟩ : ∃ m, m = (mergeB l0).1 := ⟨_, rfl⟩
  obtain ⟨er, her⟩ : ∃ er, er = (mergeB l0).2 := ⟨_, rfl⟩
  have A2 := Aside0.mk (show ledger_Merge.f l0 = some (m, er) by rw [hm, her]; rfl)
  have MK_ := Aside0.mk (merge_keys l0)
  rw [← hm] at MK_
  rw [← hm, ← her] at h
  have H' := Aside0.mk h
  clear h hm her
  by_cases c3 : er = 0
  · have c3b1 : (er != 0) = false := bne_eq_false_iff_eq.mpr c3
    have H3 := Aside0.mk (show (runsB m).all (fun p => decide (p.2 = 0)) = r by have := H'.out; rw [if_pos c3] at this; exact this)
    clear c3 H'
    go_enter Try.func20, Try.ntmps20
    go_wp2_with (first
      | ((with_reducible refine gate_callee (f := 18) rfl ?_); refine goesL_ (some 12) rfl rfl Try.func18 (by kernel_rfl) rfl #[.slice A0 l0.length c0] rfl (by (try simp only [List.map_toArray, List.map_cons, List.map_nil]); first | done | rfl) ?_; (with_reducible refine (ledger_Merge.calls _ _ l0 m er _ ?side1 ?side2 A2.out).mono ?_); (case side1 => exact HR0.out); (case side2 => exact HC0.out); rintro e w4 ⟨v0, rfl, ho, hb⟩; refine ⟨_, rfl, ?_⟩; obtain ⟨Ao, co, eo⟩ := Kd.R_slice ho; subst eo; have HRM := Aside0.mk (Kd.R_reads' ho).2.2; have HBA := Aside0.mk hb; have HB := Aside0.mk (Below.refl w4.heap.size w4); clear ho hb)
      | ((with_reducible refine gate_dst (N := 17) rfl ?_); refine runMK.make_op _ rfl rfl ?_; intro mb w6 hmb his hb; have HM := Aside0.mk his; have n0_ := Aside0.mk (below_step HB.out hb); have GEM := Aside0.mk ((by rw [hmb]; exact below_size HB.out) : w4.heap.size ≤ mb); clear HB; have HB := n0_; clear n0_ hb hmb his))
    clear c3b1
    go_loopw [20] (fun i wr => ∃ x : Int, i = .int .i64 x ∧ Aside0 (0 ≤ x ∧ x ≤ m.length) ∧ Aside0 (runMK.Is wr mb x.toNat (runsB (m.take x.toNat))) ∧ Aside0 (Below w4.heap.size w4 wr)) (fun i _ => m.length - (intOf i).toNat)
    case atStart => exact ⟨0, rfl, ⟨by omega, by omega⟩, ⟨by simpa [runsB, addsG] using HM.out⟩, HB⟩
    case round =>
      clear HB HM
      obtain ⟨x, rfl, HX, HM, HB⟩ := hrel
      by_cases c7 : x < (m.length : Int)
      · have c7b0 : decide (x < (m.length : Int)) = true := decide_eq_true c7
        have p117 : 0 ≤ x := HX.out.1
        have q117 : x < (m.length : Int) := c7
        have HY := Aside0.mk c7
        have HT := Aside0.mk (rdB_drop m x p117 c7)
        clear c7
        obtain ⟨ad117, e117, hx117_0, hx117_1, hx117_2⟩ := at_T42 HRM.out x p117 q117
        cases e117
        replace hx117_0 := pw_cell_below HB.out hx117_0
        replace hx117_1 := pw_cell_below HB.out hx117_1
        replace hx117_2 := pw_cell_below HB.out hx117_2
        replace p117 := eq_true p117
        replace q117 := eq_true q117
        obtain ⟨pj, hpj⟩ : ∃ pj, pj = rd_T42 m x := ⟨_, rfl⟩
        rw [← hpj] at HT hx117_0 hx117_1 hx117_2
        clear hpj
        have HK := Aside0.mk (show (Lit.int .i64 pj.f0).wf = true by have := MK_.out.2 pj HT.out.2; exact wf_of (by omega) (by omega))
        go_wp2_with (first
          | ((with_reducible refine gate_dst (N := 7) rfl ?_); refine box_event ?hg (N := 7) ?hd (cs := #[.int .i64 0, .int .i64 0, .int .i64 0]) (t := 42) ?hr ?_; (case hd => rfl); (case hg => rfl); (case hr => first | (go_simp; done) | (go_simp; rfl)); intro gb2 hg w7 hbox hb; have n0_ := Aside0.mk (below_step HB.out hb); have n1_ := Aside0.mk (HM.out.below hb); have GE2 := Aside0.mk ((by rw [hg]; exact below_size HB.out) : w4.heap.size ≤ gb2); have NE2 := Aside0.mk ((by rw [hg]; exact Nat.ne_of_lt HM.out.lt) : mb ≠ gb2); clear HB HM; have HB := n0_; have HM := n1_; clear n0_ n1_ hb hg; have hz0 : w7.cell? ⟨gb2, 0, none⟩ = some (.int .i64 0) := (blk_cell hbox 0).trans rfl; have hz1 : w7.cell? ⟨gb2, 1, none⟩ = some (.int .i64 0) := (blk_cell hbox 1).trans rfl; have hz2 : w7.cell? ⟨gb2, 2, none⟩ = some (.int .i64 0) := (blk_cell hbox 2).trans rfl; have hf0 := blk_frozen hbox 0; have hf1 := blk_frozen hbox 1; have hf2 := blk_frozen hbox 2; clear hbox)
          | (at_lookup; refine lookup_ii _ Try.underlying3 Try.underlying3 Try.underlying78 rfl _ _ rfl (acctZero _) mb x.toNat (runsB (m.take x.toNat)) rfl (((HM.out.far NE2.out _).far NE2.out _).far NE2.out _) pj.f0 rfl HK.out ?_; intro hwc)
          | (at_mapUpdate; refine update_ii _ Try.underlying3 Try.underlying3 Try.underlying78 rfl _ _ _ rfl mb x.toNat (runsB (m.take x.toNat)) rfl (((HM.out.far NE2.out _).far NE2.out _).far NE2.out _) (by have := MK_.out.1; have := HX.out; unfold maxLen; omega) pj.f0 _ rfl HK.out rfl (wrap64_wf _) _ (fun y => lookup_putL ltI pj.f0 _ _ y) ?_; intro w8 his hgr; have n0_ := Aside0.mk (pw_below_grown (below_set (below_set (below_set HB.out GE2.out) GE2.out) GE2.out) _ (below_size (below_set (below_set (below_set HB.out GE2.out) GE2.out) GE2.out)) hgr (fun k e => by cases e; exact GEM.out)); clear HB HM; have HB := n0_; have HM := Aside0.mk his; clear n0_ his hgr))
        go_roundw
        case rel =>
          have hx := HX.out
          have hy := HY.out
          have hl := MK_.out.1
          have e1 : (x + 1).toNat = x.toNat + 1 := by omega
          refine ⟨x + 1, by first | rfl | (rw [show wrap64 (x + 1) = x + 1 by unfold wrap64; omega]), ⟨by omega, by omega⟩, ⟨?_⟩, HB⟩
          rw [HT.out.1, show runsB (m.take x.toNat ++ [pj]) = addG ltI runB amtB (runsB (m.take x.toNat)) pj from addsG_snoc _ _ _, e1]
          exact HM.out
        case measure =>
          have hx := HX.out
          have hy := HY.out
          have hl := MK_.out.1
          have e : wrap64 (x + 1) = x + 1 := by unfold wrap64; omega
          simp [intOf, e]; omega
      · have c7b0 : decide (x < (m.length : Int)) = false := decide_eq_false c7
        have hxl : x.toNat = m.length := by have := HX.out; omega
        rw [hxl, List.take_length] at HM
        clear hxl c7 HX
        go_wp2_with (first
          | (at_range; refine runMK.range_op _ rfl _ rfl mb m.length (runsB m) rfl HM.out ?_; intro rb w9 hrb hr hgr; have HR := Aside0.mk hr; have GER := Aside0.mk ((by rw [hrb]; exact below_size HB.out) : w4.heap.size ≤ rb); have n0_ := Aside0.mk (pw_below_grown HB.out none (below_size HB.out) hgr (by simp)); clear HB HM; have HB := n0_; clear n0_ hr hgr hrb))
        go_frame
        go_loopw [] (fun wr => ∃ done : List (Int × Int), Aside0 (runMK.Ranges wr mb rb m.length (runsB m) done) ∧ Aside0 (∀ p ∈ done, p.2 = 0) ∧ Aside0 (Below w4.heap.size w4 wr)) (fun wr => wr.rangeLeft mb rb)
        case atStart => exact ⟨[], HR, ⟨by simp⟩, HB⟩
        case round =>
          clear HR HB
          obtain ⟨done, HR, HD, HB⟩ := hrel
          go_wp2_with (first
            | (at_next; refine next_ii _ Try.underlying3 Try.underlying3 Try.underlying78 rfl _ rfl mb rb m.length (runsB m) done rfl HR.out ?_ ?_))
          · intro hall
            have hnd : (done.map (·.1)).Nodup := by
              obtain ⟨_, _, _, _, _, _, _, hn⟩ := HR.out
              exact hn
            have hperm := perm_of_lookup hnd ((runsB_asc m).nodup orderI) hall
            have hany : (runsB m).all (fun p => decide (p.2 = 0)) = true := by
              rw [List.all_eq_true]
              intro p hp
              exact decide_eq_true (HD.out p (hperm.mem_iff.2 hp))
            have H := H3.out
            rw [hany] at H
            subst H
            clear hall hnd hperm hany HD H3
            go_wp2
            go_ret
            exact ⟨rfl, below_step HBA.out HB.out⟩
          · intro x c w1 hwx hwc hmx hdx hr hlt hg hsz hen
            have HR2 := Aside0.mk hr
            have HLT := Aside0.mk hlt
            have HMX := Aside0.mk (mem_of_lookup hmx)
            have n0_ := Aside0.mk (pw_below_grown HB.out _ (below_size HB.out) hg (fun k e => by cases e; exact GER.out))
            clear HB; have HB := n0_
            clear n0_ hmx hdx hr hlt hg hsz hwx hwc HR
            by_cases hc : c = 0
            · have hc0 : (c != 0) = false := bne_eq_false_iff_eq.mpr hc
              have HC := Aside0.mk hc
              clear hc
              go_wp2
              go_roundw
              case rel => exact ⟨done ++ [(x, c)], HR2, ⟨fun p hp => (List.mem_append.1 hp).elim (fun hp => HD.out p hp) (fun hp => by rw [List.mem_singleton] at hp; subst hp; exact HC.out)⟩, HB⟩
              case measure => exact HLT.out
            · have hc0 : (c != 0) = true := bne_iff_ne.mpr hc
              have hany : (runsB m).all (fun p => decide (p.2 = 0)) = false := by
                rw [Bool.eq_false_iff]
                intro ha
                exact hc (of_decide_eq_true (List.all_eq_true.1 ha _ HMX.out))
              have H := H3.out
              rw [hany] at H
              subst H
              clear hc hany H3
              go_wp2
              go_ret
              exact ⟨rfl, below_step HBA.out HB.out⟩
  · have c3b1 : (er != 0) = true := bne_iff_ne.mpr c3
    have H3 := Aside0.mk (show false = r by have := H'.out; rw [if_neg c3] at this; exact this)
    clear c3 H'
    go_enter Try.func20, Try.ntmps20
    go_wp2_with (first
      | ((with_reducible refine gate_callee (f := 18) rfl ?_); refine goesL_ (some 12) rfl rfl Try.func18 (by kernel_rfl) rfl #[.slice A0 l0.length c0] rfl (by (try simp only [List.map_toArray, List.map_cons, List.map_nil]); first | done | rfl) ?_; (with_reducible refine (ledger_Merge.calls _ _ l0 m er _ ?side1 ?side2 A2.out).mono ?_); (case side1 => exact HR0.out); (case side2 => exact HC0.out); rintro e w4 ⟨v0, rfl, ho, hb⟩; refine ⟨_, rfl, ?_⟩; obtain ⟨Ao, co, eo⟩ := Kd.R_slice ho; subst eo; have HBA := Aside0.mk hb; clear ho hb))
    go_ret
    exact ⟨by rw [← H3.out]; rfl, HBA.out⟩
end LBalExt

end Go.Proofs.Ytfakedchahildaa.Q
