-- Printed by wip/xprint.py over the translation, with contracts proved by hand among them. Lean checks it.
import Derived.Test.YtbmcddmhfnnccaaQx0
namespace Go.Proofs.Ytbmcddmhfnnccaa.Q
open Go.RowKit Go.Proofs.YtbmcddmhfnnccaaW.PrintWords Go.Proofs.YtbmcddmhfnnccaaW.PrintLast Go.Proofs.YtbmcddmhfnnccaaW.PrintMore
attribute [local go_sem] max2_int min2_int max_two min_two max_three min_three max_four min_four   -- for this text's walks alone
set_option linter.unusedVariables false
set_option linter.unusedSimpArgs false

/-! ### payrollref26_Find: function 18 -/
def payrollref26_Find.l0 : Nat → List (S31) → ByteArray → Int → Option (ByteArray × Int × Bool × Bool × Bool × Int × Bool)
  | 0, _, _, _ => none
  | k + 1, x0, x1, x6 => if x6 < (x0.length : Int) then (if 0 ≤ x6 then (if ((rd_T31 x0 x6).f0).toList = x1.toList then (some ((rd_T31 x0 x6).f0, (rd_T31 x0 x6).f1, (rd_T31 x0 x6).f2, (rd_T31 x0 x6).f3, (rd_T31 x0 x6).f4, (rd_T31 x0 x6).f5, true)) else (payrollref26_Find.l0 k x0 x1 (wrap64 (x6 + 1)))) else (none)) else (some ((⟨#[]⟩ : ByteArray), 0, false, false, false, 0, false))
def payrollref26_Find.f (k : Nat) (l0 : List (S31)) (a1 : ByteArray) : Option (ByteArray × Int × Bool × Bool × Bool × Int × Bool) := payrollref26_Find.l0 k l0 a1 0
theorem payrollref26_Find.mono_l : ∀ k, (∀ y0 y1 y2, LeO (payrollref26_Find.l0 k y0 y1 y2) (payrollref26_Find.l0 (k + 1) y0 y1 y2))
  | 0 => fun _ _ _ r h => by simp [payrollref26_Find.l0] at h
  | k + 1 => by
    have ih0 := payrollref26_Find.mono_l k
    · intro y0 y1 y2
      unfold payrollref26_Find.l0
      repeat' first
      | (with_reducible exact ih0 _ _ _)
      | (with_reducible exact LeO.refl _)
      | (with_reducible exact LeO.none _)
      | (with_reducible refine LeO.ite ?_ ?_)
      | (with_reducible refine LeO.bind ?_ (fun _ => ?_))
      | exact ih0 _ _ _
      | exact LeO.none _
      | refine LeO.ite ?_ ?_
      | refine LeO.bind ?_ (fun _ => ?_)
theorem payrollref26_Find.mono : ∀ a0 a1 k, LeO (payrollref26_Find.f k a0 a1) (payrollref26_Find.f (k + 1) a0 a1) := by
  intro a0 a1 k
  have ih0 := payrollref26_Find.mono_l k
  unfold payrollref26_Find.f
  repeat' first
      | (with_reducible exact ih0 _ _ _)
      | (with_reducible exact LeO.refl _)
      | (with_reducible exact LeO.none _)
      | (with_reducible refine LeO.ite ?_ ?_)
      | (with_reducible refine LeO.bind ?_ (fun _ => ?_))
      | exact ih0 _ _ _
      | exact LeO.none _
      | refine LeO.ite ?_ ?_
      | refine LeO.bind ?_ (fun _ => ?_)
set_option maxHeartbeats 8000000 in
set_option maxRecDepth 100000 in
theorem payrollref26_Find.calls (k : Nat) (A0 : Option Addr) (c0 : Nat) (l0 : List (S31)) (a1 : ByteArray) (r1 : ByteArray) (r2 : Int) (r3 : Bool) (r4 : Bool) (r5 : Bool) (r6 : Int) (r7 : Bool) (w : World) (hr0 : Kd.C k31 w A0 l0.length l0) (hc0 : l0.length ≤ c0) (h : payrollref26_Find.f k l0 a1 = some (r1, r2, r3, r4, r5, r6, r7)) :
    Calls Try.prog 18 #[.slice A0 l0.length c0, .string a1] w fun e w' => e = .returned (.tuple #[.agg #[.string r1, .int .i64 r2, .bool r3, .bool r4, .bool r5, .int .i64 r6], .bool r7]) ∧ Below w.heap.size w w' := by
  have hu31 := Try.underlying31
  have HR0 := Aside0.mk hr0
  have HC0 := Aside0.mk hc0
  clear hr0 hc0
  have HB := Aside0.mk (Below.refl w.heap.size w)
  have H : (payrollref26_Find.l0 k l0 a1 0) = some (r1, r2, r3, r4, r5, r6, r7) := h
  clear h
  have H' := Aside0.mk H
  clear H
  go_enter Try.func18, Try.ntmps18
  go_wp2_with (first | ((with_reducible refine gate_dst (N := 4) rfl ?_); refine box_event ?hg (N := 4) ?hd (cs := #[.string (⟨#[]⟩ : ByteArray), .int .i64 0, .bool false, .bool false, .bool false, .int .i64 0]) (t := 31) ?hr ?_; (case hd => rfl); (case hg => rfl); (case hr => first | (go_simp; done) | (go_simp; rfl)); intro gb135 hg w3 hbox hb; have n0_ := Aside0.mk (below_step (by repeat (first | (with_reducible first | exact HB.out | apply below_alloc | apply pw_below_drewN | apply below_drew1) | exact HB.out)) hb); have n1_ := Aside0.mk (hbox); have n2_ := Aside0.mk ((by rw [hg]; exact (below_size (by repeat (first | (with_reducible first | exact HB.out | apply below_alloc | apply pw_below_drewN | apply below_drew1) | exact HB.out))) : w.heap.size ≤ gb135)); have n3_ := Aside0.mk ((by rw [hg]; exact (below_size (by repeat (first | (with_reducible first | exact HB.out | apply below_alloc | apply pw_below_drewN | apply below_drew1) | exact HB.out))) : w.heap.size ≤ gb135)); clear HB; have HB := n0_; have BK135 := n1_; have GW135 := n2_; have GE135 := n3_; clear n0_ n1_ n2_ n3_; clear hb hbox hg))
  go_loopg [6] k (fun kq v6 w' => ∃ (x6_1 : Int) (x136000_1 : ByteArray) (x136001_1 : Int) (x136002_1 : Bool) (x136003_1 : Bool) (x136004_1 : Bool) (x136005_1 : Int), v6 = .int .i64 x6_1 ∧ Aside0 (payrollref26_Find.l0 kq l0 a1 x6_1 = some (r1, r2, r3, r4, r5, r6, r7)) ∧ Aside0 (kq ≤ k) ∧ Aside0 (w'.heap[gb135]? = some (.cells #[.string x136000_1, .int .i64 x136001_1, .bool x136002_1, .bool x136003_1, .bool x136004_1, .int .i64 x136005_1] 31 (0, 0))) ∧ Aside0 (Below w.heap.size w w'))
  case atStart => exact ⟨(0), ((⟨#[]⟩ : ByteArray)), (0), (false), (false), (false), (0), (by first | rfl | (simp; done) | (simp [*]; done)), H', ⟨Nat.le_refl _⟩, ⟨by (with_reducible repeat (first | refine blk_drewN ?_ _ | refine blk_drew ?_ | refine blk_alloc ?_ _)); exact BK135.out⟩, ⟨by repeat (first | (with_reducible first | exact HB.out | apply below_alloc | apply pw_below_drewN | apply below_drew1 | refine below_set ?_ GE135.out) | exact HB.out)⟩⟩
  case round =>
    clear H'
    try clear c1
    try clear p2
    obtain ⟨x6_1, x136000_1, x136001_1, x136002_1, x136003_1, x136004_1, x136005_1, rfl, HA, HK1, BK135, HB⟩ := hrel
    cases gk with
    | zero => exact absurd HA.out (by simp [payrollref26_Find.l0])
    | succ k1 =>
      have H := HA.out
      clear HA
      simp only [payrollref26_Find.l0] at H
      by_cases c4 : x6_1 < (l0.length : Int)
      · rw [if_pos c4] at H
        have c4b0 : decide (x6_1 < (l0.length : Int)) = true := decide_eq_true c4
        clear c4
        by_cases c5 : 0 ≤ x6_1
        · rw [if_pos c5] at H
          have c5b0 : decide (0 ≤ x6_1) = true := decide_eq_true c5
          clear c5
          by_cases c6 : ((rd_T31 l0 x6_1).f0).toList = a1.toList
          · rw [if_pos c6] at H
            have c6b0 : (((rd_T31 l0 x6_1).f0).toList == a1.toList) = true := beq_iff_eq.mpr c6
            have c6b1 : (((rd_T31 l0 x6_1).f0).toList != a1.toList) = false := bne_eq_false_iff_eq.mpr c6
            clear c6
            simp only [Option.some.injEq, Prod.mk.injEq] at H
            obtain ⟨rfl, rfl, rfl, rfl, rfl, rfl, rfl⟩ := H
            have p136 : 0 ≤ (x6_1 : Int) := of_decide_eq_true (by first | (with_reducible assumption) | assumption)
            have q136 : x6_1 < (l0.length : Int) := of_decide_eq_true (by first | (with_reducible assumption) | assumption)
            obtain ⟨ad136, e136, hx136_0, hx136_1, hx136_2, hx136_3, hx136_4, hx136_5⟩ := at_T31 HR0.out x6_1 p136 q136
            cases e136
            replace hx136_0 := (HB.out.cell (World.block_lt_of_cell? w _ hx136_0)).trans hx136_0
            replace hx136_1 := (HB.out.cell (World.block_lt_of_cell? w _ hx136_1)).trans hx136_1
            replace hx136_2 := (HB.out.cell (World.block_lt_of_cell? w _ hx136_2)).trans hx136_2
            replace hx136_3 := (HB.out.cell (World.block_lt_of_cell? w _ hx136_3)).trans hx136_3
            replace hx136_4 := (HB.out.cell (World.block_lt_of_cell? w _ hx136_4)).trans hx136_4
            replace hx136_5 := (HB.out.cell (World.block_lt_of_cell? w _ hx136_5)).trans hx136_5
            replace p136 := eq_true p136
            replace q136 := eq_true q136
            have p137 : 0 ≤ (x6_1 : Int) := of_decide_eq_true (by first | (with_reducible assumption) | assumption)
            have q137 : x6_1 < (l0.length : Int) := of_decide_eq_true (by first | (with_reducible assumption) | assumption)
            obtain ⟨ad137, e137, hx137_0, hx137_1, hx137_2, hx137_3, hx137_4, hx137_5⟩ := at_T31 HR0.out x6_1 p137 q137
            obtain rfl : ad136 = ad137 := (by injection e137)
            replace hx137_0 := (HB.out.cell (World.block_lt_of_cell? w _ hx137_0)).trans hx137_0
            replace hx137_1 := (HB.out.cell (World.block_lt_of_cell? w _ hx137_1)).trans hx137_1
            replace hx137_2 := (HB.out.cell (World.block_lt_of_cell? w _ hx137_2)).trans hx137_2
            replace hx137_3 := (HB.out.cell (World.block_lt_of_cell? w _ hx137_3)).trans hx137_3
            replace hx137_4 := (HB.out.cell (World.block_lt_of_cell? w _ hx137_4)).trans hx137_4
            replace hx137_5 := (HB.out.cell (World.block_lt_of_cell? w _ hx137_5)).trans hx137_5
            replace p137 := eq_true p137
            replace q137 := eq_true q137
            have hcz7_0 : wr.cell? ⟨gb135, 0, none⟩ = some (.string x136000_1) := (blk_cell BK135.out 0).trans rfl
            have hcz7_1 : wr.cell? ⟨gb135, 1, none⟩ = some (.int .i64 x136001_1) := (blk_cell BK135.out 1).trans rfl
            have hcz7_2 : wr.cell? ⟨gb135, 2, none⟩ = some (.bool x136002_1) := (blk_cell BK135.out 2).trans rfl
            have hcz7_3 : wr.cell? ⟨gb135, 3, none⟩ = some (.bool x136003_1) := (blk_cell BK135.out 3).trans rfl
            have hcz7_4 : wr.cell? ⟨gb135, 4, none⟩ = some (.bool x136004_1) := (blk_cell BK135.out 4).trans rfl
            have hcz7_5 : wr.cell? ⟨gb135, 5, none⟩ = some (.int .i64 x136005_1) := (blk_cell BK135.out 5).trans rfl
            have hfz7_0 := blk_frozen BK135.out 0
            have hfz7_1 := blk_frozen BK135.out 1
            have hfz7_2 := blk_frozen BK135.out 2
            have hfz7_3 := blk_frozen BK135.out 3
            have hfz7_4 := blk_frozen BK135.out 4
            have hfz7_5 := blk_frozen BK135.out 5
            go_wp2
            refine bodyPost_ret (results_ct rfl _ _ gb135 31 #[.string ((rd_T31 l0 x6_1).f0), .int .i64 ((rd_T31 l0 x6_1).f1), .bool ((rd_T31 l0 x6_1).f2), .bool ((rd_T31 l0 x6_1).f3), .bool ((rd_T31 l0 x6_1).f4), .int .i64 ((rd_T31 l0 x6_1).f5)] (0, 0) _ rfl (by (with_reducible repeat (first | refine blk_drewN ?_ _ | refine blk_drew ?_ | refine blk_alloc ?_ _)); refine blk_put (cs := #[.string ((rd_T31 l0 x6_1).f0), .int .i64 ((rd_T31 l0 x6_1).f1), .bool ((rd_T31 l0 x6_1).f2), .bool ((rd_T31 l0 x6_1).f3), .bool ((rd_T31 l0 x6_1).f4), .int .i64 x136005_1]) ?_ 5 _ rfl; (with_reducible repeat (first | refine blk_drewN ?_ _ | refine blk_drew ?_ | refine blk_alloc ?_ _)); refine blk_put (cs := #[.string ((rd_T31 l0 x6_1).f0), .int .i64 ((rd_T31 l0 x6_1).f1), .bool ((rd_T31 l0 x6_1).f2), .bool ((rd_T31 l0 x6_1).f3), .bool x136004_1, .int .i64 x136005_1]) ?_ 4 _ rfl; (with_reducible repeat (first | refine blk_drewN ?_ _ | refine blk_drew ?_ | refine blk_alloc ?_ _)); refine blk_put (cs := #[.string ((rd_T31 l0 x6_1).f0), .int .i64 ((rd_T31 l0 x6_1).f1), .bool ((rd_T31 l0 x6_1).f2), .bool x136003_1, .bool x136004_1, .int .i64 x136005_1]) ?_ 3 _ rfl; (with_reducible repeat (first | refine blk_drewN ?_ _ | refine blk_drew ?_ | refine blk_alloc ?_ _)); refine blk_put (cs := #[.string ((rd_T31 l0 x6_1).f0), .int .i64 ((rd_T31 l0 x6_1).f1), .bool x136002_1, .bool x136003_1, .bool x136004_1, .int .i64 x136005_1]) ?_ 2 _ rfl; (with_reducible repeat (first | refine blk_drewN ?_ _ | refine blk_drew ?_ | refine blk_alloc ?_ _)); refine blk_put (cs := #[.string ((rd_T31 l0 x6_1).f0), .int .i64 x136001_1, .bool x136002_1, .bool x136003_1, .bool x136004_1, .int .i64 x136005_1]) ?_ 1 _ rfl; (with_reducible repeat (first | refine blk_drewN ?_ _ | refine blk_drew ?_ | refine blk_alloc ?_ _)); refine blk_put (cs := #[.string x136000_1, .int .i64 x136001_1, .bool x136002_1, .bool x136003_1, .bool x136004_1, .int .i64 x136005_1]) ?_ 0 _ rfl; (with_reducible repeat (first | refine blk_drewN ?_ _ | refine blk_drew ?_ | refine blk_alloc ?_ _)); exact BK135.out) Try.underlying31 rfl (by kernel_rfl)) rfl ?_
            exact ⟨by first | rfl | (simp [errW_none, errW_some] <;> rfl) | (simp [*, errW_none, errW_some] <;> rfl), by repeat (first | (with_reducible first | exact HB.out | apply below_alloc | apply pw_below_drewN | apply below_drew1 | refine below_set ?_ GE135.out) | exact HB.out)⟩
          · rw [if_neg c6] at H
            have c6b0 : (((rd_T31 l0 x6_1).f0).toList == a1.toList) = false := beq_eq_false_iff_ne.mpr c6
            have c6b1 : (((rd_T31 l0 x6_1).f0).toList != a1.toList) = true := bne_iff_ne.mpr c6
            have H' := Aside0.mk H
            clear H
            have p136 : 0 ≤ (x6_1 : Int) := of_decide_eq_true (by first | (with_reducible assumption) | assumption)
            have q136 : x6_1 < (l0.length : Int) := of_decide_eq_true (by first | (with_reducible assumption) | assumption)
            obtain ⟨ad136, e136, hx136_0, hx136_1, hx136_2, hx136_3, hx136_4, hx136_5⟩ := at_T31 HR0.out x6_1 p136 q136
            cases e136
            replace hx136_0 := (HB.out.cell (World.block_lt_of_cell? w _ hx136_0)).trans hx136_0
            replace hx136_1 := (HB.out.cell (World.block_lt_of_cell? w _ hx136_1)).trans hx136_1
            replace hx136_2 := (HB.out.cell (World.block_lt_of_cell? w _ hx136_2)).trans hx136_2
            replace hx136_3 := (HB.out.cell (World.block_lt_of_cell? w _ hx136_3)).trans hx136_3
            replace hx136_4 := (HB.out.cell (World.block_lt_of_cell? w _ hx136_4)).trans hx136_4
            replace hx136_5 := (HB.out.cell (World.block_lt_of_cell? w _ hx136_5)).trans hx136_5
            replace p136 := eq_true p136
            replace q136 := eq_true q136
            go_wp2
            go_roundg k1
            case measure => have := HK1.out; omega
            case rel => exact ⟨(wrap64 (x6_1 + 1)), (x136000_1), (x136001_1), (x136002_1), (x136003_1), (x136004_1), (x136005_1), (by first | rfl | (simp; done) | (simp [*]; done)), H', ⟨by have := HK1.out; omega⟩, ⟨by (with_reducible repeat (first | refine blk_drewN ?_ _ | refine blk_drew ?_ | refine blk_alloc ?_ _)); exact BK135.out⟩, ⟨by repeat (first | (with_reducible first | exact HB.out | apply below_alloc | apply pw_below_drewN | apply below_drew1 | refine below_set ?_ GE135.out) | exact HB.out)⟩⟩
        · rw [if_neg c5] at H
          exact absurd H (by simp)
      · rw [if_neg c4] at H
        have c4b0 : decide (x6_1 < (l0.length : Int)) = false := decide_eq_false c4
        clear c4
        simp only [Option.some.injEq, Prod.mk.injEq] at H
        obtain ⟨rfl, rfl, rfl, rfl, rfl, rfl, rfl⟩ := H
        have hcz8_0 : wr.cell? ⟨gb135, 0, none⟩ = some (.string x136000_1) := (blk_cell BK135.out 0).trans rfl
        have hcz8_1 : wr.cell? ⟨gb135, 1, none⟩ = some (.int .i64 x136001_1) := (blk_cell BK135.out 1).trans rfl
        have hcz8_2 : wr.cell? ⟨gb135, 2, none⟩ = some (.bool x136002_1) := (blk_cell BK135.out 2).trans rfl
        have hcz8_3 : wr.cell? ⟨gb135, 3, none⟩ = some (.bool x136003_1) := (blk_cell BK135.out 3).trans rfl
        have hcz8_4 : wr.cell? ⟨gb135, 4, none⟩ = some (.bool x136004_1) := (blk_cell BK135.out 4).trans rfl
        have hcz8_5 : wr.cell? ⟨gb135, 5, none⟩ = some (.int .i64 x136005_1) := (blk_cell BK135.out 5).trans rfl
        have hfz8_0 := blk_frozen BK135.out 0
        have hfz8_1 := blk_frozen BK135.out 1
        have hfz8_2 := blk_frozen BK135.out 2
        have hfz8_3 := blk_frozen BK135.out 3
        have hfz8_4 := blk_frozen BK135.out 4
        have hfz8_5 := blk_frozen BK135.out 5
        go_wp2
        refine bodyPost_ret (results_ct rfl _ _ gb135 31 #[.string (⟨#[]⟩ : ByteArray), .int .i64 0, .bool false, .bool false, .bool false, .int .i64 0] (0, 0) _ rfl (by (with_reducible repeat (first | refine blk_drewN ?_ _ | refine blk_drew ?_ | refine blk_alloc ?_ _)); refine blk_put (cs := #[.string (⟨#[]⟩ : ByteArray), .int .i64 0, .bool false, .bool false, .bool false, .int .i64 x136005_1]) ?_ 5 _ rfl; (with_reducible repeat (first | refine blk_drewN ?_ _ | refine blk_drew ?_ | refine blk_alloc ?_ _)); refine blk_put (cs := #[.string (⟨#[]⟩ : ByteArray), .int .i64 0, .bool false, .bool false, .bool x136004_1, .int .i64 x136005_1]) ?_ 4 _ rfl; (with_reducible repeat (first | refine blk_drewN ?_ _ | refine blk_drew ?_ | refine blk_alloc ?_ _)); refine blk_put (cs := #[.string (⟨#[]⟩ : ByteArray), .int .i64 0, .bool false, .bool x136003_1, .bool x136004_1, .int .i64 x136005_1]) ?_ 3 _ rfl; (with_reducible repeat (first | refine blk_drewN ?_ _ | refine blk_drew ?_ | refine blk_alloc ?_ _)); refine blk_put (cs := #[.string (⟨#[]⟩ : ByteArray), .int .i64 0, .bool x136002_1, .bool x136003_1, .bool x136004_1, .int .i64 x136005_1]) ?_ 2 _ rfl; (with_reducible repeat (first | refine blk_drewN ?_ _ | refine blk_drew ?_ | refine blk_alloc ?_ _)); refine blk_put (cs := #[.string (⟨#[]⟩ : ByteArray), .int .i64 x136001_1, .bool x136002_1, .bool x136003_1, .bool x136004_1, .int .i64 x136005_1]) ?_ 1 _ rfl; (with_reducible repeat (first | refine blk_drewN ?_ _ | refine blk_drew ?_ | refine blk_alloc ?_ _)); refine blk_put (cs := #[.string x136000_1, .int .i64 x136001_1, .bool x136002_1, .bool x136003_1, .bool x136004_1, .int .i64 x136005_1]) ?_ 0 _ rfl; (with_reducible repeat (first | refine blk_drewN ?_ _ | refine blk_drew ?_ | refine blk_alloc ?_ _)); exact BK135.out) Try.underlying31 rfl (by kernel_rfl)) rfl ?_
        exact ⟨by first | rfl | (simp [errW_none, errW_some] <;> rfl) | (simp [*, errW_none, errW_some] <;> rfl), by repeat (first | (with_reducible first | exact HB.out | apply below_alloc | apply pw_below_drewN | apply below_drew1 | refine below_set ?_ GE135.out) | exact HB.out)⟩

end Go.Proofs.Ytbmcddmhfnnccaa.Q
