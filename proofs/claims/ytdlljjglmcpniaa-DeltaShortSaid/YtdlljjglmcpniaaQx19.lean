-- Printed by wip/xprint.py over the translation, with contracts proved by hand among them. Lean checks it.
import Derived.Test.YtdlljjglmcpniaaQx0
import Derived.Test.YtdlljjglmcpniaaQx1
import Derived.Test.YtdlljjglmcpniaaQx4
import Derived.Test.YtdlljjglmcpniaaQx17
import Derived.Test.YtdlljjglmcpniaaQx18
namespace Go.Proofs.Ytdlljjglmcpniaa.Q
open Go.RowKit Go.Proofs.YtdlljjglmcpniaaW.PrintWords Go.Proofs.YtdlljjglmcpniaaW.PrintLast Go.Proofs.YtdlljjglmcpniaaW.PrintMore
attribute [local go_sem] max2_int min2_int max_two min_two max_three min_three max_four min_four   -- for this text's walks alone
set_option linter.unusedVariables false
set_option linter.unusedSimpArgs false

attribute [local go_sem high] eqA56
/-! ### book_Add: function 31 -/
mutual
def book_Add.l0 : Nat → List (S58) → List (S58) → List (S58) → Int → Int → Option ((List (S58)) × Int)
  | 0, _, _, _, _, _ => none
  | k + 1, x0, x1, x13, x14, x15 => if x15 < x14 then (if 0 ≤ x15 then (if x15 < (x13.length : Int) then ((book_Valid.f k ((rd_T58 x13 x15).f0) ((rd_T58 x13 x15).f1) ((rd_T58 x13 x15).f2) ((rd_T58 x13 x15).f3.f0) ((rd_T58 x13 x15).f3.f1) ((rd_T58 x13 x15).f3.f2)).bind fun t454 => (if t454 = true then (book_Add.l0 k x0 x1 x13 x14 (wrap64 (x15 + 1))) else (some (([] : List (S58)), 1)))) else (none)) else (none)) else (if (wrap64 ((x0.length : Int) + (x1.length : Int))) > 65536 then (some (([] : List (S58)), 18)) else (if 0 ≤ (wrap64 ((x0.length : Int) + (x1.length : Int))) then (if (wrap64 ((x0.length : Int) + (x1.length : Int)) : Int).toNat ≤ 5026338869833 then ((some (([] : List (S58)) : List (S58))).bind fun y455 => (if y455.length + x0.length < 2513169434916 then ((some (y455 ++ x0 : List (S58))).bind fun y458 => (if y458.length + x1.length < 2513169434916 then (book_Add.l1 k (y458 ++ x1) 1) else (none))) else (none))) else (none)) else (none)))
def book_Add.l1 : Nat → List (S58) → Int → Option ((List (S58)) × Int)
  | 0, _, _ => none
  | k + 1, x8, x9 => if x9 < (x8.length : Int) then (if 0 ≤ (wrap64 (x9 - 1)) then (if (wrap64 (x9 - 1)) < (x8.length : Int) then (if 0 ≤ x9 then (if ((rd_T58 x8 (wrap64 (x9 - 1))).f0) > ((rd_T58 x8 x9).f0) then (some (([] : List (S58)), 15)) else (book_Add.l1 k x8 (wrap64 (x9 + 1)))) else (none)) else (none)) else (none)) else (some (x8, 0))
end
def book_Add.f (k : Nat) (l0 : List (S58)) (l1 : List (S58)) : Option ((List (S58)) × Int) := (book_Book.f k l0).bind fun t451 => (if t451 = true then (book_Add.l0 k l0 l1 l1 (l1.length : Int) 0) else (some (([] : List (S58)), 1)))
theorem book_Add.mono_l : ∀ k, (∀ y0 y1 y2 y3 y4, LeO (book_Add.l0 k y0 y1 y2 y3 y4) (book_Add.l0 (k + 1) y0 y1 y2 y3 y4)) ∧ (∀ y0 y1, LeO (book_Add.l1 k y0 y1) (book_Add.l1 (k + 1) y0 y1))
  | 0 => ⟨fun _ _ _ _ _ r h => by simp [book_Add.l0] at h, fun _ _ r h => by simp [book_Add.l1] at h⟩
  | k + 1 => by
    obtain ⟨ih0, ih1⟩ := book_Add.mono_l k
    refine ⟨?_, ?_⟩
    · intro y0 y1 y2 y3 y4
      unfold book_Add.l0
      repeat' first
      | (with_reducible exact ih0 _ _ _ _ _)
      | (with_reducible exact ih1 _ _)
      | (with_reducible exact book_Book.mono _ _)
      | (with_reducible exact book_Valid.mono _ _ _ _ _ _ _)
      | (with_reducible exact LeO.refl _)
      | (with_reducible exact LeO.none _)
      | (with_reducible refine LeO.ite ?_ ?_)
      | (with_reducible refine LeO.bind ?_ (fun _ => ?_))
      | exact ih0 _ _ _ _ _
      | exact ih1 _ _
      | exact book_Book.mono _ _
      | exact book_Valid.mono _ _ _ _ _ _ _
      | exact LeO.none _
      | refine LeO.ite ?_ ?_
      | refine LeO.bind ?_ (fun _ => ?_)
    · intro y0 y1
      unfold book_Add.l1
      repeat' first
      | (with_reducible exact ih0 _ _ _ _ _)
      | (with_reducible exact ih1 _ _)
      | (with_reducible exact book_Book.mono _ _)
      | (with_reducible exact book_Valid.mono _ _ _ _ _ _ _)
      | (with_reducible exact LeO.refl _)
      | (with_reducible exact LeO.none _)
      | (with_reducible refine LeO.ite ?_ ?_)
      | (with_reducible refine LeO.bind ?_ (fun _ => ?_))
      | exact ih0 _ _ _ _ _
      | exact ih1 _ _
      | exact book_Book.mono _ _
      | exact book_Valid.mono _ _ _ _ _ _ _
      | exact LeO.none _
      | refine LeO.ite ?_ ?_
      | refine LeO.bind ?_ (fun _ => ?_)
theorem book_Add.mono : ∀ a0 a1 k, LeO (book_Add.f k a0 a1) (book_Add.f (k + 1) a0 a1) := by
  intro a0 a1 k
  obtain ⟨ih0, ih1⟩ := book_Add.mono_l k
  unfold book_Add.f
  repeat' first
      | (with_reducible exact ih0 _ _ _ _ _)
      | (with_reducible exact ih1 _ _)
      | (with_reducible exact book_Book.mono _ _)
      | (with_reducible exact book_Valid.mono _ _ _ _ _ _ _)
      | (with_reducible exact LeO.refl _)
      | (with_reducible exact LeO.none _)
      | (with_reducible refine LeO.ite ?_ ?_)
      | (with_reducible refine LeO.bind ?_ (fun _ => ?_))
      | exact ih0 _ _ _ _ _
      | exact ih1 _ _
      | exact book_Book.mono _ _
      | exact book_Valid.mono _ _ _ _ _ _ _
      | exact LeO.none _
      | refine LeO.ite ?_ ?_
      | refine LeO.bind ?_ (fun _ => ?_)
set_option maxHeartbeats 8000000 in
set_option maxRecDepth 100000 in
theorem book_Add.calls (k : Nat) (A0 : Option Addr) (c0 : Nat) (l0 : List (S58)) (A1 : Option Addr) (c1 : Nat) (l1 : List (S58)) (r1 : List (S58)) (r2 : Int) (w : World) (hr0 : Kd.C k58 w A0 l0.length l0) (hc0 : l0.length ≤ c0) (hr1 : Kd.C k58 w A1 l1.length l1) (hc1 : l1.length ≤ c1) (h : book_Add.f k l0 l1 = some (r1, r2)) :
    Calls Try.prog 31 #[.slice A0 l0.length c0, .slice A1 l1.length c1] w fun e w' => ∃ v0_ : Value, e = .returned (.tuple #[v0_, .int .i64 r2]) ∧ Kd.R k58 58 w' w.heap.size (fun _ => True) v0_ r1 ∧ Below w.heap.size w w' := by
  have hu58 := Try.underlying58
  have HR0 := Aside0.mk hr0
  have HC0 := Aside0.mk hc0
  clear hr0 hc0
  have HR1 := Aside0.mk hr1
  have HC1 := Aside0.mk hc1
  clear hr1 hc1
  have HB := Aside0.mk (Below.refl w.heap.size w)
  have H : ((book_Book.f k l0).bind fun t451 => (if t451 = true then (book_Add.l0 k l0 l1 l1 (l1.length : Int) 0) else (some (([] : List (S58)), 1)))) = some (r1, r2) := h
  clear h
  replace H := Option.bind_eq_some_iff.mp H
  obtain ⟨t451, A30, H⟩ := H
  replace H : (if t451 = true then (book_Add.l0 k l0 l1 l1 (l1.length : Int) 0) else (some (([] : List (S58)), 1))) = some (r1, r2) := H
  have A3 := Aside0.mk A30
  clear A30
  by_cases c4 : t451 = true
  · subst c4
    have H1 : (book_Add.l0 k l0 l1 l1 (l1.length : Int) 0) = some (r1, r2) := by rw [if_pos rfl] at H; exact H
    clear H
    have H := H1
    clear H1
    have H' := Aside0.mk H
    clear H
    go_enter Try.func31, Try.ntmps31
    go_wp2_with (first | (go_at_call 44; (with_reducible refine (book_Book.calls k _ _ l0 true _ ?side1 ?side2 A3.out).mono ?_); (case side1 => repeat (first | exact HR0.out | (with_reducible refine Kd.C_alloc ?_ _) | (with_reducible refine Kd.C_drewN ?_ _) | (with_reducible refine Kd.C_drew ?_))); (case side2 => exact HC0.out); rintro e w5 ⟨rfl, hb⟩; have n0_ := Aside0.mk (below_step (by repeat (first | (with_reducible first | exact HB.out | apply below_alloc | apply pw_below_drewN | apply below_drew1) | exact HB.out)) hb); clear HB; have HB := n0_; clear n0_; (try clear hb); (try clear hb2); (try clear hk); (try clear hi)))
    repeat (go_quiet (first | (go_at_call 44; (with_reducible refine (book_Book.calls k _ _ l0 true _ ?side1 ?side2 A3.out).mono ?_); (case side1 => repeat (first | exact HR0.out | (with_reducible refine Kd.C_alloc ?_ _) | (with_reducible refine Kd.C_drewN ?_ _) | (with_reducible refine Kd.C_drew ?_))); (case side2 => exact HC0.out); rintro e w5 ⟨rfl, hb⟩; have n0_ := Aside0.mk (below_step (by repeat (first | (with_reducible first | exact HB.out | apply below_alloc | apply pw_below_drewN | apply below_drew1) | exact HB.out)) hb); clear HB; have HB := n0_; clear n0_; (try clear hb); (try clear hb2); (try clear hk); (try clear hi))); try go_wp2_with (first | (go_at_call 44; (with_reducible refine (book_Book.calls k _ _ l0 true _ ?side1 ?side2 A3.out).mono ?_); (case side1 => repeat (first | exact HR0.out | (with_reducible refine Kd.C_alloc ?_ _) | (with_reducible refine Kd.C_drewN ?_ _) | (with_reducible refine Kd.C_drew ?_))); (case side2 => exact HC0.out); rintro e w5 ⟨rfl, hb⟩; have n0_ := Aside0.mk (below_step (by repeat (first | (with_reducible first | exact HB.out | apply below_alloc | apply pw_below_drewN | apply below_drew1) | exact HB.out)) hb); clear HB; have HB := n0_; clear n0_; (try clear hb); (try clear hb2); (try clear hk); (try clear hi))))
    go_loopg [15] k (fun kq v15 w' => ∃ (x15_1 : Int), v15 = .int .i64 x15_1 ∧ Aside0 (book_Add.l0 kq l0 l1 l1 (l1.length : Int) x15_1 = some (r1, r2)) ∧ Aside0 (kq ≤ k) ∧ Aside0 (Below w.heap.size w w'))
    case atStart => exact ⟨(0), (by first | rfl | (simp; done) | (simp [*]; done)), H', ⟨Nat.le_refl _⟩, ⟨by repeat (first | (with_reducible first | exact HB.out | apply below_alloc | apply pw_below_drewN | apply below_drew1) | exact HB.out)⟩⟩
    case round =>
      clear H'
      try clear c1
      try clear p2
      try clear c3
      try clear c4
      obtain ⟨x15_1, rfl, HA, HK1, HB⟩ := hrel
      cases gk with
      | zero => exact absurd HA.out (by simp [book_Add.l0])
      | succ k1 =>
        have H := HA.out
        clear HA
        simp only [book_Add.l0] at H
        by_cases c6 : x15_1 < (l1.length : Int)
        · rw [if_pos c6] at H
          have c6b0 : decide (x15_1 < (l1.length : Int)) = true := decide_eq_true c6
          clear c6
          by_cases c7 : 0 ≤ x15_1
          · rw [if_pos c7] at H
            have c7b0 : decide (0 ≤ x15_1) = true := decide_eq_true c7
            clear c7
            by_cases c8 : x15_1 < (l1.length : Int)
            · rw [if_pos c8] at H
              have c8b0 : decide (x15_1 < (l1.length : Int)) = true := decide_eq_true c8
              clear c8
              replace H := Option.bind_eq_some_iff.mp H
              obtain ⟨t454, A90, H⟩ := H
              replace H : (if t454 = true then (book_Add.l0 k1 l0 l1 l1 (l1.length : Int) (wrap64 (x15_1 + 1))) else (some (([] : List (S58)), 1))) = some (r1, r2) := H
              have A9 := Aside0.mk A90
              clear A90
              by_cases c10 : t454 = true
              · subst c10
                have H1 : (book_Add.l0 k1 l0 l1 l1 (l1.length : Int) (wrap64 (x15_1 + 1))) = some (r1, r2) := by rw [if_pos rfl] at H; exact H
                clear H
                have H := H1
                clear H1
                have H' := Aside0.mk H
                clear H
                have p452 : 0 ≤ (x15_1 : Int) := of_decide_eq_true (by first | (with_reducible assumption) | assumption)
                have q452 : x15_1 < (l1.length : Int) := of_decide_eq_true (by first | (with_reducible assumption) | assumption)
                obtain ⟨ad452, e452, hx452_0, hx452_1, hx452_2, hx452_3, hx452_4, hx452_5⟩ := at_T58 HR1.out x15_1 p452 q452
                cases e452
                replace hx452_0 := (HB.out.cell (World.block_lt_of_cell? w _ hx452_0)).trans hx452_0
                replace hx452_1 := (HB.out.cell (World.block_lt_of_cell? w _ hx452_1)).trans hx452_1
                replace hx452_2 := (HB.out.cell (World.block_lt_of_cell? w _ hx452_2)).trans hx452_2
                replace hx452_3 := (HB.out.cell (World.block_lt_of_cell? w _ hx452_3)).trans hx452_3
                replace hx452_4 := (HB.out.cell (World.block_lt_of_cell? w _ hx452_4)).trans hx452_4
                replace hx452_5 := (HB.out.cell (World.block_lt_of_cell? w _ hx452_5)).trans hx452_5
                replace p452 := eq_true p452
                replace q452 := eq_true q452
                go_wp2_with (first | ((with_reducible refine gate_dst (N := 7) rfl ?_); refine box_event ?hg (N := 7) ?hd (cs := #[.int .i64 0, .int .i64 0, .int .i64 0, .int .i64 0, .string (⟨#[]⟩ : ByteArray), .int .i64 0]) (t := 58) ?hr ?_; (case hd => rfl); (case hg => rfl); (case hr => first | (go_simp; done) | (go_simp; rfl)); intro gb453 hg w11 hbox hb; have n0_ := Aside0.mk (below_step (by repeat (first | (with_reducible first | exact HB.out | apply below_alloc | apply pw_below_drewN | apply below_drew1) | exact HB.out)) hb); have n1_ := Aside0.mk (hbox); have n2_ := Aside0.mk ((by rw [hg]; exact (below_size (by repeat (first | (with_reducible first | exact HB.out | apply below_alloc | apply pw_below_drewN | apply below_drew1) | exact HB.out))) : w.heap.size ≤ gb453)); have n3_ := Aside0.mk ((by rw [hg]; exact (below_size (by repeat (first | (with_reducible first | exact HB.out | apply below_alloc | apply pw_below_drewN | apply below_drew1) | exact HB.out))) : w.heap.size ≤ gb453)); clear HB; have HB := n0_; have BK453 := n1_; have GW453 := n2_; have GE453 := n3_; clear n0_ n1_ n2_ n3_; clear hb hbox hg; have hcz12_0 : w11.cell? ⟨gb453, 0, none⟩ = some (.int .i64 0) := (blk_cell BK453.out 0).trans rfl; have hcz12_1 : w11.cell? ⟨gb453, 1, none⟩ = some (.int .i64 0) := (blk_cell BK453.out 1).trans rfl; have hcz12_2 : w11.cell? ⟨gb453, 2, none⟩ = some (.int .i64 0) := (blk_cell BK453.out 2).trans rfl; have hcz12_3 : w11.cell? ⟨gb453, 3, none⟩ = some (.int .i64 0) := (blk_cell BK453.out 3).trans rfl; have hcz12_4 : w11.cell? ⟨gb453, 4, none⟩ = some (.string (⟨#[]⟩ : ByteArray)) := (blk_cell BK453.out 4).trans rfl; have hcz12_5 : w11.cell? ⟨gb453, 5, none⟩ = some (.int .i64 0) := (blk_cell BK453.out 5).trans rfl; have hfz12_0 := blk_frozen BK453.out 0; have hfz12_1 := blk_frozen BK453.out 1; have hfz12_2 := blk_frozen BK453.out 2; have hfz12_3 := blk_frozen BK453.out 3; have hfz12_4 := blk_frozen BK453.out 4; have hfz12_5 := blk_frozen BK453.out 5) | (go_at_call 45; (with_reducible refine (book_Valid.calls k1 ((rd_T58 l1 x15_1).f0) ((rd_T58 l1 x15_1).f1) ((rd_T58 l1 x15_1).f2) ((rd_T58 l1 x15_1).f3.f0) ((rd_T58 l1 x15_1).f3.f1) ((rd_T58 l1 x15_1).f3.f2) true _ A9.out).mono ?_); rintro e w13 ⟨rfl, hb⟩; have n0_ := Aside0.mk (blk_below (g := gb453) (o := .cells #[.int .i64 ((rd_T58 l1 x15_1).f0), .int .i64 ((rd_T58 l1 x15_1).f1), .int .i64 ((rd_T58 l1 x15_1).f2), .int .i64 ((rd_T58 l1 x15_1).f3.f0), .string ((rd_T58 l1 x15_1).f3.f1), .int .i64 ((rd_T58 l1 x15_1).f3.f2)] 58 (0, 0)) (by (with_reducible repeat (first | refine blk_drewN ?_ _ | refine blk_drew ?_ | refine blk_alloc ?_ _)); refine blk_put (cs := #[.int .i64 ((rd_T58 l1 x15_1).f0), .int .i64 ((rd_T58 l1 x15_1).f1), .int .i64 ((rd_T58 l1 x15_1).f2), .int .i64 ((rd_T58 l1 x15_1).f3.f0), .string ((rd_T58 l1 x15_1).f3.f1), .int .i64 0]) ?_ 5 _ rfl; (with_reducible repeat (first | refine blk_drewN ?_ _ | refine blk_drew ?_ | refine blk_alloc ?_ _)); refine blk_put (cs := #[.int .i64 ((rd_T58 l1 x15_1).f0), .int .i64 ((rd_T58 l1 x15_1).f1), .int .i64 ((rd_T58 l1 x15_1).f2), .int .i64 ((rd_T58 l1 x15_1).f3.f0), .string (⟨#[]⟩ : ByteArray), .int .i64 0]) ?_ 4 _ rfl; (with_reducible repeat (first | refine blk_drewN ?_ _ | refine blk_drew ?_ | refine blk_alloc ?_ _)); refine blk_put (cs := #[.int .i64 ((rd_T58 l1 x15_1).f0), .int .i64 ((rd_T58 l1 x15_1).f1), .int .i64 ((rd_T58 l1 x15_1).f2), .int .i64 0, .string (⟨#[]⟩ : ByteArray), .int .i64 0]) ?_ 3 _ rfl; (with_reducible repeat (first | refine blk_drewN ?_ _ | refine blk_drew ?_ | refine blk_alloc ?_ _)); refine blk_put (cs := #[.int .i64 ((rd_T58 l1 x15_1).f0), .int .i64 ((rd_T58 l1 x15_1).f1), .int .i64 0, .int .i64 0, .string (⟨#[]⟩ : ByteArray), .int .i64 0]) ?_ 2 _ rfl; (with_reducible repeat (first | refine blk_drewN ?_ _ | refine blk_drew ?_ | refine blk_alloc ?_ _)); refine blk_put (cs := #[.int .i64 ((rd_T58 l1 x15_1).f0), .int .i64 0, .int .i64 0, .int .i64 0, .string (⟨#[]⟩ : ByteArray), .int .i64 0]) ?_ 1 _ rfl; (with_reducible repeat (first | refine blk_drewN ?_ _ | refine blk_drew ?_ | refine blk_alloc ?_ _)); refine blk_put (cs := #[.int .i64 0, .int .i64 0, .int .i64 0, .int .i64 0, .string (⟨#[]⟩ : ByteArray), .int .i64 0]) ?_ 0 _ rfl; (with_reducible repeat (first | refine blk_drewN ?_ _ | refine blk_drew ?_ | refine blk_alloc ?_ _)); exact BK453.out) hb); have n1_ := Aside0.mk (below_step (by repeat (first | (with_reducible first | exact HB.out | apply below_alloc | apply pw_below_drewN | apply below_drew1 | refine below_set ?_ GE453.out) | exact HB.out)) hb); clear BK453; clear HB; have BK453 := n0_; have HB := n1_; clear n0_ n1_; (try clear hb); (try clear hb2); (try clear hk); (try clear hi)))
                repeat (go_quiet (first | ((with_reducible refine gate_dst (N := 7) rfl ?_); refine box_event ?hg (N := 7) ?hd (cs := #[.int .i64 0, .int .i64 0, .int .i64 0, .int .i64 0, .string (⟨#[]⟩ : ByteArray), .int .i64 0]) (t := 58) ?hr ?_; (case hd => rfl); (case hg => rfl); (case hr => first | (go_simp; done) | (go_simp; rfl)); intro gb453 hg w11 hbox hb; have n0_ := Aside0.mk (below_step (by repeat (first | (with_reducible first | exact HB.out | apply below_alloc | apply pw_below_drewN | apply below_drew1) | exact HB.out)) hb); have n1_ := Aside0.mk (hbox); have n2_ := Aside0.mk ((by rw [hg]; exact (below_size (by repeat (first | (with_reducible first | exact HB.out | apply below_alloc | apply pw_below_drewN | apply below_drew1) | exact HB.out))) : w.heap.size ≤ gb453)); have n3_ := Aside0.mk ((by rw [hg]; exact (below_size (by repeat (first | (with_reducible first | exact HB.out | apply below_alloc | apply pw_below_drewN | apply below_drew1) | exact HB.out))) : w.heap.size ≤ gb453)); clear HB; have HB := n0_; have BK453 := n1_; have GW453 := n2_; have GE453 := n3_; clear n0_ n1_ n2_ n3_; clear hb hbox hg; have hcz12_0 : w11.cell? ⟨gb453, 0, none⟩ = some (.int .i64 0) := (blk_cell BK453.out 0).trans rfl; have hcz12_1 : w11.cell? ⟨gb453, 1, none⟩ = some (.int .i64 0) := (blk_cell BK453.out 1).trans rfl; have hcz12_2 : w11.cell? ⟨gb453, 2, none⟩ = some (.int .i64 0) := (blk_cell BK453.out 2).trans rfl; have hcz12_3 : w11.cell? ⟨gb453, 3, none⟩ = some (.int .i64 0) := (blk_cell BK453.out 3).trans rfl; have hcz12_4 : w11.cell? ⟨gb453, 4, none⟩ = some (.string (⟨#[]⟩ : ByteArray)) := (blk_cell BK453.out 4).trans rfl; have hcz12_5 : w11.cell? ⟨gb453, 5, none⟩ = some (.int .i64 0) := (blk_cell BK453.out 5).trans rfl; have hfz12_0 := blk_frozen BK453.out 0; have hfz12_1 := blk_frozen BK453.out 1; have hfz12_2 := blk_frozen BK453.out 2; have hfz12_3 := blk_frozen BK453.out 3; have hfz12_4 := blk_frozen BK453.out 4; have hfz12_5 := blk_frozen BK453.out 5) | (go_at_call 45; (with_reducible refine (book_Valid.calls k1 ((rd_T58 l1 x15_1).f0) ((rd_T58 l1 x15_1).f1) ((rd_T58 l1 x15_1).f2) ((rd_T58 l1 x15_1).f3.f0) ((rd_T58 l1 x15_1).f3.f1) ((rd_T58 l1 x15_1).f3.f2) true _ A9.out).mono ?_); rintro e w13 ⟨rfl, hb⟩; have n0_ := Aside0.mk (blk_below (g := gb453) (o := .cells #[.int .i64 ((rd_T58 l1 x15_1).f0), .int .i64 ((rd_T58 l1 x15_1).f1), .int .i64 ((rd_T58 l1 x15_1).f2), .int .i64 ((rd_T58 l1 x15_1).f3.f0), .string ((rd_T58 l1 x15_1).f3.f1), .int .i64 ((rd_T58 l1 x15_1).f3.f2)] 58 (0, 0)) (by (with_reducible repeat (first | refine blk_drewN ?_ _ | refine blk_drew ?_ | refine blk_alloc ?_ _)); refine blk_put (cs := #[.int .i64 ((rd_T58 l1 x15_1).f0), .int .i64 ((rd_T58 l1 x15_1).f1), .int .i64 ((rd_T58 l1 x15_1).f2), .int .i64 ((rd_T58 l1 x15_1).f3.f0), .string ((rd_T58 l1 x15_1).f3.f1), .int .i64 0]) ?_ 5 _ rfl; (with_reducible repeat (first | refine blk_drewN ?_ _ | refine blk_drew ?_ | refine blk_alloc ?_ _)); refine blk_put (cs := #[.int .i64 ((rd_T58 l1 x15_1).f0), .int .i64 ((rd_T58 l1 x15_1).f1), .int .i64 ((rd_T58 l1 x15_1).f2), .int .i64 ((rd_T58 l1 x15_1).f3.f0), .string (⟨#[]⟩ : ByteArray), .int .i64 0]) ?_ 4 _ rfl; (with_reducible repeat (first | refine blk_drewN ?_ _ | refine blk_drew ?_ | refine blk_alloc ?_ _)); refine blk_put (cs := #[.int .i64 ((rd_T58 l1 x15_1).f0), .int .i64 ((rd_T58 l1 x15_1).f1), .int .i64 ((rd_T58 l1 x15_1).f2), .int .i64 0, .string (⟨#[]⟩ : ByteArray), .int .i64 0]) ?_ 3 _ rfl; (with_reducible repeat (first | refine blk_drewN ?_ _ | refine blk_drew ?_ | refine blk_alloc ?_ _)); refine blk_put (cs := #[.int .i64 ((rd_T58 l1 x15_1).f0), .int .i64 ((rd_T58 l1 x15_1).f1), .int .i64 0, .int .i64 0, .string (⟨#[]⟩ : ByteArray), .int .i64 0]) ?_ 2 _ rfl; (with_reducible repeat (first | refine blk_drewN ?_ _ | refine blk_drew ?_ | refine blk_alloc ?_ _)); refine blk_put (cs := #[.int .i64 ((rd_T58 l1 x15_1).f0), .int .i64 0, .int .i64 0, .int .i64 0, .string (⟨#[]⟩ : ByteArray), .int .i64 0]) ?_ 1 _ rfl; (with_reducible repeat (first | refine blk_drewN ?_ _ | refine blk_drew ?_ | refine blk_alloc ?_ _)); refine blk_put (cs := #[.int .i64 0, .int .i64 0, .int .i64 0, .int .i64 0, .string (⟨#[]⟩ : ByteArray), .int .i64 0]) ?_ 0 _ rfl; (with_reducible repeat (first | refine blk_drewN ?_ _ | refine blk_drew ?_ | refine blk_alloc ?_ _)); exact BK453.out) hb); have n1_ := Aside0.mk (below_step (by repeat (first | (with_reducible first | exact HB.out | apply below_alloc | apply pw_below_drewN | apply below_drew1 | refine below_set ?_ GE453.out) | exact HB.out)) hb); clear BK453; clear HB; have BK453 := n0_; have HB := n1_; clear n0_ n1_; (try clear hb); (try clear hb2); (try clear hk); (try clear hi))); try go_wp2_with (first | ((with_reducible refine gate_dst (N := 7) rfl ?_); refine box_event ?hg (N := 7) ?hd (cs := #[.int .i64 0, .int .i64 0, .int .i64 0, .int .i64 0, .string (⟨#[]⟩ : ByteArray), .int .i64 0]) (t := 58) ?hr ?_; (case hd => rfl); (case hg => rfl); (case hr => first | (go_simp; done) | (go_simp; rfl)); intro gb453 hg w11 hbox hb; have n0_ := Aside0.mk (below_step (by repeat (first | (with_reducible first | exact HB.out | apply below_alloc | apply pw_below_drewN | apply below_drew1) | exact HB.out)) hb); have n1_ := Aside0.mk (hbox); have n2_ := Aside0.mk ((by rw [hg]; exact (below_size (by repeat (first | (with_reducible first | exact HB.out | apply below_alloc | apply pw_below_drewN | apply below_drew1) | exact HB.out))) : w.heap.size ≤ gb453)); have n3_ := Aside0.mk ((by rw [hg]; exact (below_size (by repeat (first | (with_reducible first | exact HB.out | apply below_alloc | apply pw_below_drewN | apply below_drew1) | exact HB.out))) : w.heap.size ≤ gb453)); clear HB; have HB := n0_; have BK453 := n1_; have GW453 := n2_; have GE453 := n3_; clear n0_ n1_ n2_ n3_; clear hb hbox hg; have hcz12_0 : w11.cell? ⟨gb453, 0, none⟩ = some (.int .i64 0) := (blk_cell BK453.out 0).trans rfl; have hcz12_1 : w11.cell? ⟨gb453, 1, none⟩ = some (.int .i64 0) := (blk_cell BK453.out 1).trans rfl; have hcz12_2 : w11.cell? ⟨gb453, 2, none⟩ = some (.int .i64 0) := (blk_cell BK453.out 2).trans rfl; have hcz12_3 : w11.cell? ⟨gb453, 3, none⟩ = some (.int .i64 0) := (blk_cell BK453.out 3).trans rfl; have hcz12_4 : w11.cell? ⟨gb453, 4, none⟩ = some (.string (⟨#[]⟩ : ByteArray)) := (blk_cell BK453.out 4).trans rfl; have hcz12_5 : w11.cell? ⟨gb453, 5, none⟩ = some (.int .i64 0) := (blk_cell BK453.out 5).trans rfl; have hfz12_0 := blk_frozen BK453.out 0; have hfz12_1 := blk_frozen BK453.out 1; have hfz12_2 := blk_frozen BK453.out 2; have hfz12_3 := blk_frozen BK453.out 3; have hfz12_4 := blk_frozen BK453.out 4; have hfz12_5 := blk_frozen BK453.out 5) | (go_at_call 45; (with_reducible refine (book_Valid.calls k1 ((rd_T58 l1 x15_1).f0) ((rd_T58 l1 x15_1).f1) ((rd_T58 l1 x15_1).f2) ((rd_T58 l1 x15_1).f3.f0) ((rd_T58 l1 x15_1).f3.f1) ((rd_T58 l1 x15_1).f3.f2) true _ A9.out).mono ?_); rintro e w13 ⟨rfl, hb⟩; have n0_ := Aside0.mk (blk_below (g := gb453) (o := .cells #[.int .i64 ((rd_T58 l1 x15_1).f0), .int .i64 ((rd_T58 l1 x15_1).f1), .int .i64 ((rd_T58 l1 x15_1).f2), .int .i64 ((rd_T58 l1 x15_1).f3.f0), .string ((rd_T58 l1 x15_1).f3.f1), .int .i64 ((rd_T58 l1 x15_1).f3.f2)] 58 (0, 0)) (by (with_reducible repeat (first | refine blk_drewN ?_ _ | refine blk_drew ?_ | refine blk_alloc ?_ _)); refine blk_put (cs := #[.int .i64 ((rd_T58 l1 x15_1).f0), .int .i64 ((rd_T58 l1 x15_1).f1), .int .i64 ((rd_T58 l1 x15_1).f2), .int .i64 ((rd_T58 l1 x15_1).f3.f0), .string ((rd_T58 l1 x15_1).f3.f1), .int .i64 0]) ?_ 5 _ rfl; (with_reducible repeat (first | refine blk_drewN ?_ _ | refine blk_drew ?_ | refine blk_alloc ?_ _)); refine blk_put (cs := #[.int .i64 ((rd_T58 l1 x15_1).f0), .int .i64 ((rd_T58 l1 x15_1).f1), .int .i64 ((rd_T58 l1 x15_1).f2), .int .i64 ((rd_T58 l1 x15_1).f3.f0), .string (⟨#[]⟩ : ByteArray), .int .i64 0]) ?_ 4 _ rfl; (with_reducible repeat (first | refine blk_drewN ?_ _ | refine blk_drew ?_ | refine blk_alloc ?_ _)); refine blk_put (cs := #[.int .i64 ((rd_T58 l1 x15_1).f0), .int .i64 ((rd_T58 l1 x15_1).f1), .int .i64 ((rd_T58 l1 x15_1).f2), .int .i64 0, .string (⟨#[]⟩ : ByteArray), .int .i64 0]) ?_ 3 _ rfl; (with_reducible repeat (first | refine blk_drewN ?_ _ | refine blk_drew ?_ | refine blk_alloc ?_ _)); refine blk_put (cs := #[.int .i64 ((rd_T58 l1 x15_1).f0), .int .i64 ((rd_T58 l1 x15_1).f1), .int .i64 0, .int .i64 0, .string (⟨#[]⟩ : ByteArray), .int .i64 0]) ?_ 2 _ rfl; (with_reducible repeat (first | refine blk_drewN ?_ _ | refine blk_drew ?_ | refine blk_alloc ?_ _)); refine blk_put (cs := #[.int .i64 ((rd_T58 l1 x15_1).f0), .int .i64 0, .int .i64 0, .int .i64 0, .string (⟨#[]⟩ : ByteArray), .int .i64 0]) ?_ 1 _ rfl; (with_reducible repeat (first | refine blk_drewN ?_ _ | refine blk_drew ?_ | refine blk_alloc ?_ _)); refine blk_put (cs := #[.int .i64 0, .int .i64 0, .int .i64 0, .int .i64 0, .string (⟨#[]⟩ : ByteArray), .int .i64 0]) ?_ 0 _ rfl; (with_reducible repeat (first | refine blk_drewN ?_ _ | refine blk_drew ?_ | refine blk_alloc ?_ _)); exact BK453.out) hb); have n1_ := Aside0.mk (below_step (by repeat (first | (with_reducible first | exact HB.out | apply below_alloc | apply pw_below_drewN | apply below_drew1 | refine below_set ?_ GE453.out) | exact HB.out)) hb); clear BK453; clear HB; have BK453 := n0_; have HB := n1_; clear n0_ n1_; (try clear hb); (try clear hb2); (try clear hk); (try clear hi))))
                go_roundg k1
                case measure => have := HK1.out; omega
                case rel => exact ⟨(wrap64 (x15_1 + 1)), (by first | rfl | (simp; done) | (simp [*]; done)), H', ⟨by have := HK1.out; omega⟩, ⟨by repeat (first | (with_reducible first | exact HB.out | apply below_alloc | apply pw_below_drewN | apply below_drew1 | refine below_set ?_ GE453.out) | exact HB.out)⟩⟩
              · replace c10 := Bool.eq_false_iff.mpr c10
                subst c10
                have H1 : (some (([] : List (S58)), 1)) = some (r1, r2) := by rw [if_neg (show ¬ (false = true) by decide)] at H; exact H
                clear H
                have H := H1
                clear H1
                simp only [Option.some.injEq, Prod.mk.injEq] at H
                obtain ⟨rfl, rfl⟩ := H
                have p452 : 0 ≤ (x15_1 : Int) := of_decide_eq_true (by first | (with_reducible assumption) | assumption)
                have q452 : x15_1 < (l1.length : Int) := of_decide_eq_true (by first | (with_reducible assumption) | assumption)
                obtain ⟨ad452, e452, hx452_0, hx452_1, hx452_2, hx452_3, hx452_4, hx452_5⟩ := at_T58 HR1.out x15_1 p452 q452
                cases e452
                replace hx452_0 := (HB.out.cell (World.block_lt_of_cell? w _ hx452_0)).trans hx452_0
                replace hx452_1 := (HB.out.cell (World.block_lt_of_cell? w _ hx452_1)).trans hx452_1
                replace hx452_2 := (HB.out.cell (World.block_lt_of_cell? w _ hx452_2)).trans hx452_2
                replace hx452_3 := (HB.out.cell (World.block_lt_of_cell? w _ hx452_3)).trans hx452_3
                replace hx452_4 := (HB.out.cell (World.block_lt_of_cell? w _ hx452_4)).trans hx452_4
                replace hx452_5 := (HB.out.cell (World.block_lt_of_cell? w _ hx452_5)).trans hx452_5
                replace p452 := eq_true p452
                replace q452 := eq_true q452
                go_wp2_with (first | ((with_reducible refine gate_dst (N := 7) rfl ?_); refine box_event ?hg (N := 7) ?hd (cs := #[.int .i64 0, .int .i64 0, .int .i64 0, .int .i64 0, .string (⟨#[]⟩ : ByteArray), .int .i64 0]) (t := 58) ?hr ?_; (case hd => rfl); (case hg => rfl); (case hr => first | (go_simp; done) | (go_simp; rfl)); intro gb453 hg w14 hbox hb; have n0_ := Aside0.mk (below_step (by repeat (first | (with_reducible first | exact HB.out | apply below_alloc | apply pw_below_drewN | apply below_drew1) | exact HB.out)) hb); have n1_ := Aside0.mk (hbox); have n2_ := Aside0.mk ((by rw [hg]; exact (below_size (by repeat (first | (with_reducible first | exact HB.out | apply below_alloc | apply pw_below_drewN | apply below_drew1) | exact HB.out))) : w.heap.size ≤ gb453)); have n3_ := Aside0.mk ((by rw [hg]; exact (below_size (by repeat (first | (with_reducible first | exact HB.out | apply below_alloc | apply pw_below_drewN | apply below_drew1) | exact HB.out))) : w.heap.size ≤ gb453)); clear HB; have HB := n0_; have BK453 := n1_; have GW453 := n2_; have GE453 := n3_; clear n0_ n1_ n2_ n3_; clear hb hbox hg; have hcz15_0 : w14.cell? ⟨gb453, 0, none⟩ = some (.int .i64 0) := (blk_cell BK453.out 0).trans rfl; have hcz15_1 : w14.cell? ⟨gb453, 1, none⟩ = some (.int .i64 0) := (blk_cell BK453.out 1).trans rfl; have hcz15_2 : w14.cell? ⟨gb453, 2, none⟩ = some (.int .i64 0) := (blk_cell BK453.out 2).trans rfl; have hcz15_3 : w14.cell? ⟨gb453, 3, none⟩ = some (.int .i64 0) := (blk_cell BK453.out 3).trans rfl; have hcz15_4 : w14.cell? ⟨gb453, 4, none⟩ = some (.string (⟨#[]⟩ : ByteArray)) := (blk_cell BK453.out 4).trans rfl; have hcz15_5 : w14.cell? ⟨gb453, 5, none⟩ = some (.int .i64 0) := (blk_cell BK453.out 5).trans rfl; have hfz15_0 := blk_frozen BK453.out 0; have hfz15_1 := blk_frozen BK453.out 1; have hfz15_2 := blk_frozen BK453.out 2; have hfz15_3 := blk_frozen BK453.out 3; have hfz15_4 := blk_frozen BK453.out 4; have hfz15_5 := blk_frozen BK453.out 5) | (go_at_call 45; (with_reducible refine (book_Valid.calls k1 ((rd_T58 l1 x15_1).f0) ((rd_T58 l1 x15_1).f1) ((rd_T58 l1 x15_1).f2) ((rd_T58 l1 x15_1).f3.f0) ((rd_T58 l1 x15_1).f3.f1) ((rd_T58 l1 x15_1).f3.f2) false _ A9.out).mono ?_); rintro e w16 ⟨rfl, hb⟩; have n0_ := Aside0.mk (blk_below (g := gb453) (o := .cells #[.int .i64 ((rd_T58 l1 x15_1).f0), .int .i64 ((rd_T58 l1 x15_1).f1), .int .i64 ((rd_T58 l1 x15_1).f2), .int .i64 ((rd_T58 l1 x15_1).f3.f0), .string ((rd_T58 l1 x15_1).f3.f1), .int .i64 ((rd_T58 l1 x15_1).f3.f2)] 58 (0, 0)) (by (with_reducible repeat (first | refine blk_drewN ?_ _ | refine blk_drew ?_ | refine blk_alloc ?_ _)); refine blk_put (cs := #[.int .i64 ((rd_T58 l1 x15_1).f0), .int .i64 ((rd_T58 l1 x15_1).f1), .int .i64 ((rd_T58 l1 x15_1).f2), .int .i64 ((rd_T58 l1 x15_1).f3.f0), .string ((rd_T58 l1 x15_1).f3.f1), .int .i64 0]) ?_ 5 _ rfl; (with_reducible repeat (first | refine blk_drewN ?_ _ | refine blk_drew ?_ | refine blk_alloc ?_ _)); refine blk_put (cs := #[.int .i64 ((rd_T58 l1 x15_1).f0), .int .i64 ((rd_T58 l1 x15_1).f1), .int .i64 ((rd_T58 l1 x15_1).f2), .int .i64 ((rd_T58 l1 x15_1).f3.f0), .string (⟨#[]⟩ : ByteArray), .int .i64 0]) ?_ 4 _ rfl; (with_reducible repeat (first | refine blk_drewN ?_ _ | refine blk_drew ?_ | refine blk_alloc ?_ _)); refine blk_put (cs := #[.int .i64 ((rd_T58 l1 x15_1).f0), .int .i64 ((rd_T58 l1 x15_1).f1), .int .i64 ((rd_T58 l1 x15_1).f2), .int .i64 0, .string (⟨#[]⟩ : ByteArray), .int .i64 0]) ?_ 3 _ rfl; (with_reducible repeat (first | refine blk_drewN ?_ _ | refine blk_drew ?_ | refine blk_alloc ?_ _)); refine blk_put (cs := #[.int .i64 ((rd_T58 l1 x15_1).f0), .int .i64 ((rd_T58 l1 x15_1).f1), .int .i64 0, .int .i64 0, .string (⟨#[]⟩ : ByteArray), .int .i64 0]) ?_ 2 _ rfl; (with_reducible repeat (first | refine blk_drewN ?_ _ | refine blk_drew ?_ | refine blk_alloc ?_ _)); refine blk_put (cs := #[.int .i64 ((rd_T58 l1 x15_1).f0), .int .i64 0, .int .i64 0, .int .i64 0, .string (⟨#[]⟩ : ByteArray), .int .i64 0]) ?_ 1 _ rfl; (with_reducible repeat (first | refine blk_drewN ?_ _ | refine blk_drew ?_ | refine blk_alloc ?_ _)); refine blk_put (cs := #[.int .i64 0, .int .i64 0, .int .i64 0, .int .i64 0, .string (⟨#[]⟩ : ByteArray), .int .i64 0]) ?_ 0 _ rfl; (with_reducible repeat (first | refine blk_drewN ?_ _ | refine blk_drew ?_ | refine blk_alloc ?_ _)); exact BK453.out) hb); have n1_ := Aside0.mk (below_step (by repeat (first | (with_reducible first | exact HB.out | apply below_alloc | apply pw_below_drewN | apply below_drew1 | refine below_set ?_ GE453.out) | exact HB.out)) hb); clear BK453; clear HB; have BK453 := n0_; have HB := n1_; clear n0_ n1_; (try clear hb); (try clear hb2); (try clear hk); (try clear hi)))
                repeat (go_quiet (first | ((with_reducible refine gate_dst (N := 7) rfl ?_); refine box_event ?hg (N := 7) ?hd (cs := #[.int .i64 0, .int .i64 0, .int .i64 0, .int .i64 0, .string (⟨#[]⟩ : ByteArray), .int .i64 0]) (t := 58) ?hr ?_; (case hd => rfl); (case hg => rfl); (case hr => first | (go_simp; done) | (go_simp; rfl)); intro gb453 hg w14 hbox hb; have n0_ := Aside0.mk (below_step (by repeat (first | (with_reducible first | exact HB.out | apply below_alloc | apply pw_below_drewN | apply below_drew1) | exact HB.out)) hb); have n1_ := Aside0.mk (hbox); have n2_ := Aside0.mk ((by rw [hg]; exact (below_size (by repeat (first | (with_reducible first | exact HB.out | apply below_alloc | apply pw_below_drewN | apply below_drew1) | exact HB.out))) : w.heap.size ≤ gb453)); have n3_ := Aside0.mk ((by rw [hg]; exact (below_size (by repeat (first | (with_reducible first | exact HB.out | apply below_alloc | apply pw_below_drewN | apply below_drew1) | exact HB.out))) : w.heap.size ≤ gb453)); clear HB; have HB := n0_; have BK453 := n1_; have GW453 := n2_; have GE453 := n3_; clear n0_ n1_ n2_ n3_; clear hb hbox hg; have hcz15_0 : w14.cell? ⟨gb453, 0, none⟩ = some (.int .i64 0) := (blk_cell BK453.out 0).trans rfl; have hcz15_1 : w14.cell? ⟨gb453, 1, none⟩ = some (.int .i64 0) := (blk_cell BK453.out 1).trans rfl; have hcz15_2 : w14.cell? ⟨gb453, 2, none⟩ = some (.int .i64 0) := (blk_cell BK453.out 2).trans rfl; have hcz15_3 : w14.cell? ⟨gb453, 3, none⟩ = some (.int .i64 0) := (blk_cell BK453.out 3).trans rfl; have hcz15_4 : w14.cell? ⟨gb453, 4, none⟩ = some (.string (⟨#[]⟩ : ByteArray)) := (blk_cell BK453.out 4).trans rfl; have hcz15_5 : w14.cell? ⟨gb453, 5, none⟩ = some (.int .i64 0) := (blk_cell BK453.out 5).trans rfl; have hfz15_0 := blk_frozen BK453.out 0; have hfz15_1 := blk_frozen BK453.out 1; have hfz15_2 := blk_frozen BK453.out 2; have hfz15_3 := blk_frozen BK453.out 3; have hfz15_4 := blk_frozen BK453.out 4; have hfz15_5 := blk_frozen BK453.out 5) | (go_at_call 45; (with_reducible refine (book_Valid.calls k1 ((rd_T58 l1 x15_1).f0) ((rd_T58 l1 x15_1).f1) ((rd_T58 l1 x15_1).f2) ((rd_T58 l1 x15_1).f3.f0) ((rd_T58 l1 x15_1).f3.f1) ((rd_T58 l1 x15_1).f3.f2) false _ A9.out).mono ?_); rintro e w16 ⟨rfl, hb⟩; have n0_ := Aside0.mk (blk_below (g := gb453) (o := .cells #[.int .i64 ((rd_T58 l1 x15_1).f0), .int .i64 ((rd_T58 l1 x15_1).f1), .int .i64 ((rd_T58 l1 x15_1).f2), .int .i64 ((rd_T58 l1 x15_1).f3.f0), .string ((rd_T58 l1 x15_1).f3.f1), .int .i64 ((rd_T58 l1 x15_1).f3.f2)] 58 (0, 0)) (by (with_reducible repeat (first | refine blk_drewN ?_ _ | refine blk_drew ?_ | refine blk_alloc ?_ _)); refine blk_put (cs := #[.int .i64 ((rd_T58 l1 x15_1).f0), .int .i64 ((rd_T58 l1 x15_1).f1), .int .i64 ((rd_T58 l1 x15_1).f2), .int .i64 ((rd_T58 l1 x15_1).f3.f0), .string ((rd_T58 l1 x15_1).f3.f1), .int .i64 0]) ?_ 5 _ rfl; (with_reducible repeat (first | refine blk_drewN ?_ _ | refine blk_drew ?_ | refine blk_alloc ?_ _)); refine blk_put (cs := #[.int .i64 ((rd_T58 l1 x15_1).f0), .int .i64 ((rd_T58 l1 x15_1).f1), .int .i64 ((rd_T58 l1 x15_1).f2), .int .i64 ((rd_T58 l1 x15_1).f3.f0), .string (⟨#[]⟩ : ByteArray), .int .i64 0]) ?_ 4 _ rfl; (with_reducible repeat (first | refine blk_drewN ?_ _ | refine blk_drew ?_ | refine blk_alloc ?_ _)); refine blk_put (cs := #[.int .i64 ((rd_T58 l1 x15_1).f0), .int .i64 ((rd_T58 l1 x15_1).f1), .int .i64 ((rd_T58 l1 x15_1).f2), .int .i64 0, .string (⟨#[]⟩ : ByteArray), .int .i64 0]) ?_ 3 _ rfl; (with_reducible repeat (first | refine blk_drewN ?_ _ | refine blk_drew ?_ | refine blk_alloc ?_ _)); refine blk_put (cs := #[.int .i64 ((rd_T58 l1 x15_1).f0), .int .i64 ((rd_T58 l1 x15_1).f1), .int .i64 0, .int .i64 0, .string (⟨#[]⟩ : ByteArray), .int .i64 0]) ?_ 2 _ rfl; (with_reducible repeat (first | refine blk_drewN ?_ _ | refine blk_drew ?_ | refine blk_alloc ?_ _)); refine blk_put (cs := #[.int .i64 ((rd_T58 l1 x15_1).f0), .int .i64 0, .int .i64 0, .int .i64 0, .string (⟨#[]⟩ : ByteArray), .int .i64 0]) ?_ 1 _ rfl; (with_reducible repeat (first | refine blk_drewN ?_ _ | refine blk_drew ?_ | refine blk_alloc ?_ _)); refine blk_put (cs := #[.int .i64 0, .int .i64 0, .int .i64 0, .int .i64 0, .string (⟨#[]⟩ : ByteArray), .int .i64 0]) ?_ 0 _ rfl; (with_reducible repeat (first | refine blk_drewN ?_ _ | refine blk_drew ?_ | refine blk_alloc ?_ _)); exact BK453.out) hb); have n1_ := Aside0.mk (below_step (by repeat (first | (with_reducible first | exact HB.out | apply below_alloc | apply pw_below_drewN | apply below_drew1 | refine below_set ?_ GE453.out) | exact HB.out)) hb); clear BK453; clear HB; have BK453 := n0_; have HB := n1_; clear n0_ n1_; (try clear hb); (try clear hb2); (try clear hk); (try clear hi))); try go_wp2_with (first | ((with_reducible refine gate_dst (N := 7) rfl ?_); refine box_event ?hg (N := 7) ?hd (cs := #[.int .i64 0, .int .i64 0, .int .i64 0, .int .i64 0, .string (⟨#[]⟩ : ByteArray), .int .i64 0]) (t := 58) ?hr ?_; (case hd => rfl); (case hg => rfl); (case hr => first | (go_simp; done) | (go_simp; rfl)); intro gb453 hg w14 hbox hb; have n0_ := Aside0.mk (below_step (by repeat (first | (with_reducible first | exact HB.out | apply below_alloc | apply pw_below_drewN | apply below_drew1) | exact HB.out)) hb); have n1_ := Aside0.mk (hbox); have n2_ := Aside0.mk ((by rw [hg]; exact (below_size (by repeat (first | (with_reducible first | exact HB.out | apply below_alloc | apply pw_below_drewN | apply below_drew1) | exact HB.out))) : w.heap.size ≤ gb453)); have n3_ := Aside0.mk ((by rw [hg]; exact (below_size (by repeat (first | (with_reducible first | exact HB.out | apply below_alloc | apply pw_below_drewN | apply below_drew1) | exact HB.out))) : w.heap.size ≤ gb453)); clear HB; have HB := n0_; have BK453 := n1_; have GW453 := n2_; have GE453 := n3_; clear n0_ n1_ n2_ n3_; clear hb hbox hg; have hcz15_0 : w14.cell? ⟨gb453, 0, none⟩ = some (.int .i64 0) := (blk_cell BK453.out 0).trans rfl; have hcz15_1 : w14.cell? ⟨gb453, 1, none⟩ = some (.int .i64 0) := (blk_cell BK453.out 1).trans rfl; have hcz15_2 : w14.cell? ⟨gb453, 2, none⟩ = some (.int .i64 0) := (blk_cell BK453.out 2).trans rfl; have hcz15_3 : w14.cell? ⟨gb453, 3, none⟩ = some (.int .i64 0) := (blk_cell BK453.out 3).trans rfl; have hcz15_4 : w14.cell? ⟨gb453, 4, none⟩ = some (.string (⟨#[]⟩ : ByteArray)) := (blk_cell BK453.out 4).trans rfl; have hcz15_5 : w14.cell? ⟨gb453, 5, none⟩ = some (.int .i64 0) := (blk_cell BK453.out 5).trans rfl; have hfz15_0 := blk_frozen BK453.out 0; have hfz15_1 := blk_frozen BK453.out 1; have hfz15_2 := blk_frozen BK453.out 2; have hfz15_3 := blk_frozen BK453.out 3; have hfz15_4 := blk_frozen BK453.out 4; have hfz15_5 := blk_frozen BK453.out 5) | (go_at_call 45; (with_reducible refine (book_Valid.calls k1 ((rd_T58 l1 x15_1).f0) ((rd_T58 l1 x15_1).f1) ((rd_T58 l1 x15_1).f2) ((rd_T58 l1 x15_1).f3.f0) ((rd_T58 l1 x15_1).f3.f1) ((rd_T58 l1 x15_1).f3.f2) false _ A9.out).mono ?_); rintro e w16 ⟨rfl, hb⟩; have n0_ := Aside0.mk (blk_below (g := gb453) (o := .cells #[.int .i64 ((rd_T58 l1 x15_1).f0), .int .i64 ((rd_T58 l1 x15_1).f1), .int .i64 ((rd_T58 l1 x15_1).f2), .int .i64 ((rd_T58 l1 x15_1).f3.f0), .string ((rd_T58 l1 x15_1).f3.f1), .int .i64 ((rd_T58 l1 x15_1).f3.f2)] 58 (0, 0)) (by (with_reducible repeat (first | refine blk_drewN ?_ _ | refine blk_drew ?_ | refine blk_alloc ?_ _)); refine blk_put (cs := #[.int .i64 ((rd_T58 l1 x15_1).f0), .int .i64 ((rd_T58 l1 x15_1).f1), .int .i64 ((rd_T58 l1 x15_1).f2), .int .i64 ((rd_T58 l1 x15_1).f3.f0), .string ((rd_T58 l1 x15_1).f3.f1), .int .i64 0]) ?_ 5 _ rfl; (with_reducible repeat (first | refine blk_drewN ?_ _ | refine blk_drew ?_ | refine blk_alloc ?_ _)); refine blk_put (cs := #[.int .i64 ((rd_T58 l1 x15_1).f0), .int .i64 ((rd_T58 l1 x15_1).f1), .int .i64 ((rd_T58 l1 x15_1).f2), .int .i64 ((rd_T58 l1 x15_1).f3.f0), .string (⟨#[]⟩ : ByteArray), .int .i64 0]) ?_ 4 _ rfl; (with_reducible repeat (first | refine blk_drewN ?_ _ | refine blk_drew ?_ | refine blk_alloc ?_ _)); refine blk_put (cs := #[.int .i64 ((rd_T58 l1 x15_1).f0), .int .i64 ((rd_T58 l1 x15_1).f1), .int .i64 ((rd_T58 l1 x15_1).f2), .int .i64 0, .string (⟨#[]⟩ : ByteArray), .int .i64 0]) ?_ 3 _ rfl; (with_reducible repeat (first | refine blk_drewN ?_ _ | refine blk_drew ?_ | refine blk_alloc ?_ _)); refine blk_put (cs := #[.int .i64 ((rd_T58 l1 x15_1).f0), .int .i64 ((rd_T58 l1 x15_1).f1), .int .i64 0, .int .i64 0, .string (⟨#[]⟩ : ByteArray), .int .i64 0]) ?_ 2 _ rfl; (with_reducible repeat (first | refine blk_drewN ?_ _ | refine blk_drew ?_ | refine blk_alloc ?_ _)); refine blk_put (cs := #[.int .i64 ((rd_T58 l1 x15_1).f0), .int .i64 0, .int .i64 0, .int .i64 0, .string (⟨#[]⟩ : ByteArray), .int .i64 0]) ?_ 1 _ rfl; (with_reducible repeat (first | refine blk_drewN ?_ _ | refine blk_drew ?_ | refine blk_alloc ?_ _)); refine blk_put (cs := #[.int .i64 0, .int .i64 0, .int .i64 0, .int .i64 0, .string (⟨#[]⟩ : ByteArray), .int .i64 0]) ?_ 0 _ rfl; (with_reducible repeat (first | refine blk_drewN ?_ _ | refine blk_drew ?_ | refine blk_alloc ?_ _)); exact BK453.out) hb); have n1_ := Aside0.mk (below_step (by repeat (first | (with_reducible first | exact HB.out | apply below_alloc | apply pw_below_drewN | apply below_drew1 | refine below_set ?_ GE453.out) | exact HB.out)) hb); clear BK453; clear HB; have BK453 := n0_; have HB := n1_; clear n0_ n1_; (try clear hb); (try clear hb2); (try clear hk); (try clear hi))))
                go_ret2
                exact ⟨_, by first | rfl | (simp [errW_none, errW_some] <;> rfl) | (simp [*, errW_none, errW_some] <;> rfl), by first | exact Kd.R_nil _ _ _ _ _ | exact Kd.N_nil _ _ _ _ _ | exact Kd.V_nil _ _ _ _ _ | exact Kd.Q_nil _ _ _ _ _ | exact Kd.S_nil _ _ _ _ _, by repeat (first | (with_reducible first | exact HB.out | apply below_alloc | apply pw_below_drewN | apply below_drew1 | refine below_set ?_ GE453.out) | exact HB.out)⟩
            · rw [if_neg c8] at H
              exact absurd H (by simp)
          · rw [if_neg c7] at H
            exact absurd H (by simp)
        · rw [if_neg c6] at H
          have c6b0 : decide (x15_1 < (l1.length : Int)) = false := decide_eq_false c6
          clear c6
          by_cases c17 : (wrap64 ((l0.length : Int) + (l1.length : Int))) > 65536
          · rw [if_pos c17] at H
            have c17b0 : decide (65536 < (wrap64 ((l0.length : Int) + (l1.length : Int)))) = true := decide_eq_true c17
            clear c17
            simp only [Option.some.injEq, Prod.mk.injEq] at H
            obtain ⟨rfl, rfl⟩ := H
            go_wp2
            repeat (go_quiet (fail); try go_wp2)
            go_ret2
            exact ⟨_, by first | rfl | (simp [errW_none, errW_some] <;> rfl) | (simp [*, errW_none, errW_some] <;> rfl), by first | exact Kd.R_nil _ _ _ _ _ | exact Kd.N_nil _ _ _ _ _ | exact Kd.V_nil _ _ _ _ _ | exact Kd.Q_nil _ _ _ _ _ | exact Kd.S_nil _ _ _ _ _, by repeat (first | (with_reducible first | exact HB.out | apply below_alloc | apply pw_below_drewN | apply below_drew1) | exact HB.out)⟩
          · rw [if_neg c17] at H
            have c17b0 : decide (65536 < (wrap64 ((l0.length : Int) + (l1.length : Int)))) = false := decide_eq_false c17
            clear c17
            obtain ⟨ji18, hji18⟩ : ∃ j_ : Int, (wrap64 ((l0.length : Int) + (l1.length : Int))) = j_ := ⟨_, rfl⟩
            replace H : (if 0 ≤ (ji18) then (if (ji18 : Int).toNat ≤ 5026338869833 then ((some (([] : List (S58)) : List (S58))).bind fun y455 => (if y455.length + l0.length < 2513169434916 then ((some (y455 ++ l0 : List (S58))).bind fun y458 => (if y458.length + l1.length < 2513169434916 then (book_Add.l1 k1 (y458 ++ l1) 1) else (none))) else (none))) else (none)) else (none)) = some (r1, r2) := by first | (rw [hji18] at H; exact H) | (simp only [hji18] at H ⊢; exact H)
            (try rw [hji18] at c17b0)
            have hji18w : (IntKind.i64.wrap ((l0.length : Int) + (l1.length : Int))) = ji18 := (i64_w _).trans hji18
            by_cases c19 : 0 ≤ (ji18)
            · rw [if_pos c19] at H
              have c19b0 := eq_true c19
              have c19b1 : decide (0 ≤ (ji18)) = true := decide_eq_true c19
              clear c19
              by_cases c20 : (ji18 : Int).toNat ≤ 5026338869833
              · rw [if_pos c20] at H
                have c20b0 := eq_true c20
                have c20b1 : decide ((ji18 : Int).toNat ≤ 5026338869833) = true := decide_eq_true c20
                clear c20
                obtain ⟨y455, hy455⟩ : ∃ y_ : List (S58), y_ = (([] : List (S58))) := ⟨_, rfl⟩
                replace H : (if y455.length + l0.length < 2513169434916 then ((some (y455 ++ l0 : List (S58))).bind fun y458 => (if y458.length + l1.length < 2513169434916 then (book_Add.l1 k1 (y458 ++ l1) 1) else (none))) else (none)) = some (r1, r2) := by first | (rw [hy455]; with_reducible exact H) | (have H2_ := (Option.bind_some _ _).symm.trans H; rw [hy455]; with_reducible exact H2_) | (have H2_ := (Option.bind_some _ _).symm.trans H; with_reducible exact H2_) | with_reducible exact H | (rw [hy455]; exact H) | exact H
                have Ny455 := Aside0.mk hy455
                clear hy455
                by_cases c21 : y455.length + l0.length < 2513169434916
                · rw [if_pos c21] at H
                  have LMc21 := Aside0.mk c21
                  clear c21
                  obtain ⟨y458, hy458⟩ : ∃ y_ : List (S58), y_ = (y455 ++ l0) := ⟨_, rfl⟩
                  replace H : (if y458.length + l1.length < 2513169434916 then (book_Add.l1 k1 (y458 ++ l1) 1) else (none)) = some (r1, r2) := by first | (rw [hy458]; with_reducible exact H) | (have H2_ := (Option.bind_some _ _).symm.trans H; rw [hy458]; with_reducible exact H2_) | (have H2_ := (Option.bind_some _ _).symm.trans H; with_reducible exact H2_) | with_reducible exact H | (rw [hy458]; exact H) | exact H
                  have Ny458 := Aside0.mk hy458
                  clear hy458
                  by_cases c22 : y458.length + l1.length < 2513169434916
                  · rw [if_pos c22] at H
                    have LMc22 := Aside0.mk c22
                    clear c22
                    obtain ⟨y461, hy461⟩ : ∃ y_ : List (S58), y_ = (y458 ++ l1) := ⟨_, rfl⟩
                    replace H : (book_Add.l1 k1 y461 1) = some (r1, r2) := by first | (rw [hy461]; with_reducible exact H) | (have H2_ := (Option.bind_some _ _).symm.trans H; rw [hy461]; with_reducible exact H2_) | (have H2_ := (Option.bind_some _ _).symm.trans H; with_reducible exact H2_) | with_reducible exact H | (rw [hy461]; exact H) | exact H
                    have Ny461 := Aside0.mk hy461
                    clear hy461
                    have H' := Aside0.mk H
                    clear H
                    go_wp2_with (first | ((with_reducible refine gate_dst (N := 34) rfl ?_); refine Kd.R_make0 k58 _ 58 rfl (N := 34) rfl 30 _ _ rfl ji18 rfl rfl Try.underlying30 (.agg #[(.int .i64 0), (.int .i64 0), (.int .i64 0), (.int .i64 0), (.string ⟨#[]⟩), (.int .i64 0)]) 56 info58 (by omega) (ok := fun _ => True) trivial (of_decide_eq_true (by first | (with_reducible assumption) | assumption)) (Nat.le_trans (Nat.mul_le_mul_right _ (of_decide_eq_true (by first | (with_reducible assumption) | assumption) : ji18.toNat ≤ 5026338869833)) (by omega)) (Below.refl _ _) (Nat.le_refl _) ?_; intro v456 w23 ho24 hb hg_ hnew_; clear hg_ hnew_; (first | rw [← Ny455.out] at ho24 | (simp only [Int.reduceToNat] at ho24; rw [← Ny455.out] at ho24)); have n0_ := Aside0.mk (Kd.R_lower ho24 (below_size (by repeat (first | (with_reducible first | exact HB.out | apply below_alloc | apply pw_below_drewN | apply below_drew1) | exact HB.out)))); have n1_ := Aside0.mk (below_step (by repeat (first | (with_reducible first | exact HB.out | apply below_alloc | apply pw_below_drewN | apply below_drew1) | exact HB.out)) hb); clear HB; have HO457 := n0_; have HB := n1_; clear n0_ n1_; clear hb ho24) | ((with_reducible refine gate_builtin (b := .append) (xs := #[.tmp 34, .tmp 35]) rfl ?_); at_builtin; refine Kd.R_append_rows k58 (w0 := w) w.heap.size rfl (.tmp 34) (.tmp 35) 30 58 (.agg #[(.int .i64 0), (.int .i64 0), (.int .i64 0), (.int .i64 0), (.string ⟨#[]⟩), (.int .i64 0)]) 56 rfl Try.underlying30 info58 rfl (by decide) (by omega) v456 y455 l0 _ _ _ (fun _ => True) (fun _ => False) rfl rfl ?aO ?aR (fun _ _ h => h) (fun _ h => h.elim) ?aF ?aB ?aS ?aL ?_; (case aR => repeat (first | exact (Kd.C_below HR0.out HB.out) | (with_reducible refine Kd.C_alloc ?_ _) | (with_reducible refine Kd.C_drewN ?_ _) | (with_reducible refine Kd.C_drew ?_))); (case aB => exact (by repeat (first | (with_reducible first | exact HB.out | apply below_alloc | apply pw_below_drewN | apply below_drew1) | exact HB.out))); (case aF => exact (fun _ _ => trivial)); (case aO => exact (by (with_reducible repeat (first | apply Kd.R_alloc | apply Kd.R_drewN | apply Kd.R_drew)); exact HO457.out)); (case aS => exact (below_size (by repeat (first | (with_reducible first | exact HB.out | apply below_alloc | apply pw_below_drewN | apply below_drew1) | exact HB.out)))); (case aL => have := LMc21.out; omega); intro v459 w25 ho hb hg hat; rw [← Ny458.out] at ho; have n0_ := Aside0.mk (hb); have n1_ := Aside0.mk (ho); clear HB; clear HO457; have HB := n0_; have HO460 := n1_; clear n0_ n1_; clear ho hb hg hat) | ((with_reducible refine gate_builtin (b := .append) (xs := #[.tmp 36, .tmp 37]) rfl ?_); at_builtin; refine Kd.R_append_rows k58 (w0 := w) w.heap.size rfl (.tmp 36) (.tmp 37) 30 58 (.agg #[(.int .i64 0), (.int .i64 0), (.int .i64 0), (.int .i64 0), (.string ⟨#[]⟩), (.int .i64 0)]) 56 rfl Try.underlying30 info58 rfl (by decide) (by omega) v459 y458 l1 _ _ _ (fun _ => True) (fun _ => False) rfl rfl ?aO ?aR (fun _ _ h => h) (fun _ h => h.elim) ?aF ?aB ?aS ?aL ?_; (case aR => repeat (first | exact (Kd.C_below HR1.out HB.out) | (with_reducible refine Kd.C_alloc ?_ _) | (with_reducible refine Kd.C_drewN ?_ _) | (with_reducible refine Kd.C_drew ?_))); (case aB => exact (by repeat (first | (with_reducible first | exact HB.out | apply below_alloc | apply pw_below_drewN | apply below_drew1) | exact HB.out))); (case aF => exact (fun _ _ => trivial)); (case aO => exact (by (with_reducible repeat (first | apply Kd.R_alloc | apply Kd.R_drewN | apply Kd.R_drew)); exact HO460.out)); (case aS => exact (below_size (by repeat (first | (with_reducible first | exact HB.out | apply below_alloc | apply pw_below_drewN | apply below_drew1) | exact HB.out)))); (case aL => have := LMc22.out; omega); intro v462 w26 ho hb hg hat; rw [← Ny461.out] at ho; have n0_ := Aside0.mk (hb); have n1_ := Aside0.mk (ho); clear HB; clear HO460; have HB := n0_; have HO463 := n1_; clear n0_ n1_; clear ho hb hg hat))
                    repeat (go_quiet (first | ((with_reducible refine gate_dst (N := 34) rfl ?_); refine Kd.R_make0 k58 _ 58 rfl (N := 34) rfl 30 _ _ rfl ji18 rfl rfl Try.underlying30 (.agg #[(.int .i64 0), (.int .i64 0), (.int .i64 0), (.int .i64 0), (.string ⟨#[]⟩), (.int .i64 0)]) 56 info58 (by omega) (ok := fun _ => True) trivial (of_decide_eq_true (by first | (with_reducible assumption) | assumption)) (Nat.le_trans (Nat.mul_le_mul_right _ (of_decide_eq_true (by first | (with_reducible assumption) | assumption) : ji18.toNat ≤ 5026338869833)) (by omega)) (Below.refl _ _) (Nat.le_refl _) ?_; intro v456 w23 ho24 hb hg_ hnew_; clear hg_ hnew_; (first | rw [← Ny455.out] at ho24 | (simp only [Int.reduceToNat] at ho24; rw [← Ny455.out] at ho24)); have n0_ := Aside0.mk (Kd.R_lower ho24 (below_size (by repeat (first | (with_reducible first | exact HB.out | apply below_alloc | apply pw_below_drewN | apply below_drew1) | exact HB.out)))); have n1_ := Aside0.mk (below_step (by repeat (first | (with_reducible first | exact HB.out | apply below_alloc | apply pw_below_drewN | apply below_drew1) | exact HB.out)) hb); clear HB; have HO457 := n0_; have HB := n1_; clear n0_ n1_; clear hb ho24) | ((with_reducible refine gate_builtin (b := .append) (xs := #[.tmp 34, .tmp 35]) rfl ?_); at_builtin; refine Kd.R_append_rows k58 (w0 := w) w.heap.size rfl (.tmp 34) (.tmp 35) 30 58 (.agg #[(.int .i64 0), (.int .i64 0), (.int .i64 0), (.int .i64 0), (.string ⟨#[]⟩), (.int .i64 0)]) 56 rfl Try.underlying30 info58 rfl (by decide) (by omega) v456 y455 l0 _ _ _ (fun _ => True) (fun _ => False) rfl rfl ?aO ?aR (fun _ _ h => h) (fun _ h => h.elim) ?aF ?aB ?aS ?aL ?_; (case aR => repeat (first | exact (Kd.C_below HR0.out HB.out) | (with_reducible refine Kd.C_alloc ?_ _) | (with_reducible refine Kd.C_drewN ?_ _) | (with_reducible refine Kd.C_drew ?_))); (case aB => exact (by repeat (first | (with_reducible first | exact HB.out | apply below_alloc | apply pw_below_drewN | apply below_drew1) | exact HB.out))); (case aF => exact (fun _ _ => trivial)); (case aO => exact (by (with_reducible repeat (first | apply Kd.R_alloc | apply Kd.R_drewN | apply Kd.R_drew)); exact HO457.out)); (case aS => exact (below_size (by repeat (first | (with_reducible first | exact HB.out | apply below_alloc | apply pw_below_drewN | apply below_drew1) | exact HB.out)))); (case aL => have := LMc21.out; omega); intro v459 w25 ho hb hg hat; rw [← Ny458.out] at ho; have n0_ := Aside0.mk (hb); have n1_ := Aside0.mk (ho); clear HB; clear HO457; have HB := n0_; have HO460 := n1_; clear n0_ n1_; clear ho hb hg hat) | ((with_reducible refine gate_builtin (b := .append) (xs := #[.tmp 36, .tmp 37]) rfl ?_); at_builtin; refine Kd.R_append_rows k58 (w0 := w) w.heap.size rfl (.tmp 36) (.tmp 37) 30 58 (.agg #[(.int .i64 0), (.int .i64 0), (.int .i64 0), (.int .i64 0), (.string ⟨#[]⟩), (.int .i64 0)]) 56 rfl Try.underlying30 info58 rfl (by decide) (by omega) v459 y458 l1 _ _ _ (fun _ => True) (fun _ => False) rfl rfl ?aO ?aR (fun _ _ h => h) (fun _ h => h.elim) ?aF ?aB ?aS ?aL ?_; (case aR => repeat (first | exact (Kd.C_below HR1.out HB.out) | (with_reducible refine Kd.C_alloc ?_ _) | (with_reducible refine Kd.C_drewN ?_ _) | (with_reducible refine Kd.C_drew ?_))); (case aB => exact (by repeat (first | (with_reducible first | exact HB.out | apply below_alloc | apply pw_below_drewN | apply below_drew1) | exact HB.out))); (case aF => exact (fun _ _ => trivial)); (case aO => exact (by (with_reducible repeat (first | apply Kd.R_alloc | apply Kd.R_drewN | apply Kd.R_drew)); exact HO460.out)); (case aS => exact (below_size (by repeat (first | (with_reducible first | exact HB.out | apply below_alloc | apply pw_below_drewN | apply below_drew1) | exact HB.out)))); (case aL => have := LMc22.out; omega); intro v462 w26 ho hb hg hat; rw [← Ny461.out] at ho; have n0_ := Aside0.mk (hb); have n1_ := Aside0.mk (ho); clear HB; clear HO460; have HB := n0_; have HO463 := n1_; clear n0_ n1_; clear ho hb hg hat)); try go_wp2_with (first | ((with_reducible refine gate_dst (N := 34) rfl ?_); refine Kd.R_make0 k58 _ 58 rfl (N := 34) rfl 30 _ _ rfl ji18 rfl rfl Try.underlying30 (.agg #[(.int .i64 0), (.int .i64 0), (.int .i64 0), (.int .i64 0), (.string ⟨#[]⟩), (.int .i64 0)]) 56 info58 (by omega) (ok := fun _ => True) trivial (of_decide_eq_true (by first | (with_reducible assumption) | assumption)) (Nat.le_trans (Nat.mul_le_mul_right _ (of_decide_eq_true (by first | (with_reducible assumption) | assumption) : ji18.toNat ≤ 5026338869833)) (by omega)) (Below.refl _ _) (Nat.le_refl _) ?_; intro v456 w23 ho24 hb hg_ hnew_; clear hg_ hnew_; (first | rw [← Ny455.out] at ho24 | (simp only [Int.reduceToNat] at ho24; rw [← Ny455.out] at ho24)); have n0_ := Aside0.mk (Kd.R_lower ho24 (below_size (by repeat (first | (with_reducible first | exact HB.out | apply below_alloc | apply pw_below_drewN | apply below_drew1) | exact HB.out)))); have n1_ := Aside0.mk (below_step (by repeat (first | (with_reducible first | exact HB.out | apply below_alloc | apply pw_below_drewN | apply below_drew1) | exact HB.out)) hb); clear HB; have HO457 := n0_; have HB := n1_; clear n0_ n1_; clear hb ho24) | ((with_reducible refine gate_builtin (b := .append) (xs := #[.tmp 34, .tmp 35]) rfl ?_); at_builtin; refine Kd.R_append_rows k58 (w0 := w) w.heap.size rfl (.tmp 34) (.tmp 35) 30 58 (.agg #[(.int .i64 0), (.int .i64 0), (.int .i64 0), (.int .i64 0), (.string ⟨#[]⟩), (.int .i64 0)]) 56 rfl Try.underlying30 info58 rfl (by decide) (by omega) v456 y455 l0 _ _ _ (fun _ => True) (fun _ => False) rfl rfl ?aO ?aR (fun _ _ h => h) (fun _ h => h.elim) ?aF ?aB ?aS ?aL ?_; (case aR => repeat (first | exact (Kd.C_below HR0.out HB.out) | (with_reducible refine Kd.C_alloc ?_ _) | (with_reducible refine Kd.C_drewN ?_ _) | (with_reducible refine Kd.C_drew ?_))); (case aB => exact (by repeat (first | (with_reducible first | exact HB.out | apply below_alloc | apply pw_below_drewN | apply below_drew1) | exact HB.out))); (case aF => exact (fun _ _ => trivial)); (case aO => exact (by (with_reducible repeat (first | apply Kd.R_alloc | apply Kd.R_drewN | apply Kd.R_drew)); exact HO457.out)); (case aS => exact (below_size (by repeat (first | (with_reducible first | exact HB.out | apply below_alloc | apply pw_below_drewN | apply below_drew1) | exact HB.out)))); (case aL => have := LMc21.out; omega); intro v459 w25 ho hb hg hat; rw [← Ny458.out] at ho; have n0_ := Aside0.mk (hb); have n1_ := Aside0.mk (ho); clear HB; clear HO457; have HB := n0_; have HO460 := n1_; clear n0_ n1_; clear ho hb hg hat) | ((with_reducible refine gate_builtin (b := .append) (xs := #[.tmp 36, .tmp 37]) rfl ?_); at_builtin; refine Kd.R_append_rows k58 (w0 := w) w.heap.size rfl (.tmp 36) (.tmp 37) 30 58 (.agg #[(.int .i64 0), (.int .i64 0), (.int .i64 0), (.int .i64 0), (.string ⟨#[]⟩), (.int .i64 0)]) 56 rfl Try.underlying30 info58 rfl (by decide) (by omega) v459 y458 l1 _ _ _ (fun _ => True) (fun _ => False) rfl rfl ?aO ?aR (fun _ _ h => h) (fun _ h => h.elim) ?aF ?aB ?aS ?aL ?_; (case aR => repeat (first | exact (Kd.C_below HR1.out HB.out) | (with_reducible refine Kd.C_alloc ?_ _) | (with_reducible refine Kd.C_drewN ?_ _) | (with_reducible refine Kd.C_drew ?_))); (case aB => exact (by repeat (first | (with_reducible first | exact HB.out | apply below_alloc | apply pw_below_drewN | apply below_drew1) | exact HB.out))); (case aF => exact (fun _ _ => trivial)); (case aO => exact (by (with_reducible repeat (first | apply Kd.R_alloc | apply Kd.R_drewN | apply Kd.R_drew)); exact HO460.out)); (case aS => exact (below_size (by repeat (first | (with_reducible first | exact HB.out | apply below_alloc | apply pw_below_drewN | apply below_drew1) | exact HB.out)))); (case aL => have := LMc22.out; omega); intro v462 w26 ho hb hg hat; rw [← Ny461.out] at ho; have n0_ := Aside0.mk (hb); have n1_ := Aside0.mk (ho); clear HB; clear HO460; have HB := n0_; have HO463 := n1_; clear n0_ n1_; clear ho hb hg hat)))
                    go_loopg [9] k1 (fun kq v9 w' => ∃ (x9_2 : Int), v9 = .int .i64 x9_2 ∧ Aside0 (book_Add.l1 kq y461 x9_2 = some (r1, r2)) ∧ Aside0 (kq ≤ k1) ∧ Aside0 (Kd.R k58 58 w' w.heap.size (fun _ => True) v462 y461) ∧ Aside0 (Below w.heap.size w w'))
                    case atStart => exact ⟨(1), (by first | rfl | (simp; done) | (simp [*]; done)), H', ⟨Nat.le_refl _⟩, ⟨by (with_reducible repeat (first | apply Kd.R_alloc | apply Kd.R_drewN | apply Kd.R_drew)); exact HO463.out⟩, ⟨by repeat (first | (with_reducible first | exact HB.out | apply below_alloc | apply pw_below_drewN | apply below_drew1) | exact HB.out)⟩⟩
                    case round =>
                      clear H'
                      try clear c1
                      try clear c2
                      try clear p2
                      try clear c3
                      try clear c4
                      try clear p4
                      try clear q4
                      try clear hx4
                      try clear c6
                      try clear c6b0
                      try clear p6
                      try clear c7
                      try clear c7b0
                      try clear c8
                      try clear c8b0
                      try clear c10
                      try clear c17
                      try clear c17b0
                      try clear c19
                      try clear c19b0
                      try clear c19b1
                      try clear c20
                      try clear c20b0
                      try clear c20b1
                      try clear c21
                      try clear c22
                      try clear hcz12_0
                      try clear hcz12_1
                      try clear hcz12_2
                      try clear hcz12_3
                      try clear hcz12_4
                      try clear hcz12_5
                      try clear hcz15_0
                      try clear hcz15_1
                      try clear hcz15_2
                      try clear hcz15_3
                      try clear hcz15_4
                      try clear hcz15_5
                      try clear hfz12_0
                      try clear hfz12_1
                      try clear hfz12_2
                      try clear hfz12_3
                      try clear hfz12_4
                      try clear hfz12_5
                      try clear hfz15_0
                      try clear hfz15_1
                      try clear hfz15_2
                      try clear hfz15_3
                      try clear hfz15_4
                      try clear hfz15_5
                      try clear hx452_0
                      try clear hx452_1
                      try clear hx452_2
                      try clear hx452_3
                      try clear hx452_4
                      try clear hx452_5
                      try clear p2
                      try clear p452
                      try clear q452
                      obtain ⟨x9_2, rfl, HA, HK2, HO_8, HB⟩ := hrel
                      cases gk with
                      | zero => exact absurd HA.out (by simp [book_Add.l1])
                      | succ k2 =>
                        have H := HA.out
                        clear HA
                        simp only [book_Add.l1] at H
                        by_cases c27 : x9_2 < (y461.length : Int)
                        · rw [if_pos c27] at H
                          have c27b0 : decide (x9_2 < (y461.length : Int)) = true := decide_eq_true c27
                          clear c27
                          obtain ⟨ji28, hji28⟩ : ∃ j_ : Int, (wrap64 (x9_2 - 1)) = j_ := ⟨_, rfl⟩
                          replace H : (if 0 ≤ (ji28) then (if (ji28) < (y461.length : Int) then (if 0 ≤ x9_2 then (if ((rd_T58 y461 (ji28)).f0) > ((rd_T58 y461 x9_2).f0) then (some (([] : List (S58)), 15)) else (book_Add.l1 k2 y461 (wrap64 (x9_2 + 1)))) else (none)) else (none)) else (none)) = some (r1, r2) := by first | (rw [hji28] at H; exact H) | (simp only [hji28] at H ⊢; exact H)
                          have hji28w : (IntKind.i64.wrap (x9_2 - 1)) = ji28 := (i64_w _).trans hji28
                          by_cases c29 : 0 ≤ (ji28)
                          · rw [if_pos c29] at H
                            have c29b0 : decide (0 ≤ (ji28)) = true := decide_eq_true c29
                            clear c29
                            by_cases c30 : (ji28) < (y461.length : Int)
                            · rw [if_pos c30] at H
                              have c30b0 : decide ((ji28) < (y461.length : Int)) = true := decide_eq_true c30
                              clear c30
                              by_cases c31 : 0 ≤ x9_2
                              · rw [if_pos c31] at H
                                have c31b0 : decide (0 ≤ x9_2) = true := decide_eq_true c31
                                clear c31
                                by_cases c32 : ((rd_T58 y461 (ji28)).f0) > ((rd_T58 y461 x9_2).f0)
                                · rw [if_pos c32] at H
                                  have c32b0 : decide (((rd_T58 y461 x9_2).f0) < ((rd_T58 y461 (ji28)).f0)) = true := decide_eq_true c32
                                  clear c32
                                  simp only [Option.some.injEq, Prod.mk.injEq] at H
                                  obtain ⟨rfl, rfl⟩ := H
                                  obtain ⟨Ao33, co33, eo33⟩ := Kd.R_slice HO_8.out
                                  subst eo33
                                  have p464 : 0 ≤ ((ji28) : Int) := of_decide_eq_true (by first | (with_reducible assumption) | assumption)
                                  have q464 : (ji28) < (y461.length : Int) := of_decide_eq_true (by first | (with_reducible assumption) | assumption)
                                  obtain ⟨ad464, e464, hx464_0, hx464_1, hx464_2, hx464_3, hx464_4, hx464_5⟩ := at_T58 (Kd.R_reads' HO_8.out).2.2 (ji28) p464 q464
                                  cases e464
                                  replace p464 := eq_true p464
                                  replace q464 := eq_true q464
                                  have p465 : 0 ≤ (x9_2 : Int) := of_decide_eq_true (by first | (with_reducible assumption) | assumption)
                                  have q465 : x9_2 < (y461.length : Int) := of_decide_eq_true (by first | (with_reducible assumption) | assumption)
                                  obtain ⟨ad465, e465, hx465_0, hx465_1, hx465_2, hx465_3, hx465_4, hx465_5⟩ := at_T58 (Kd.R_reads' HO_8.out).2.2 x9_2 p465 q465
                                  obtain rfl : ad464 = ad465 := (by injection e465)
                                  replace p465 := eq_true p465
                                  replace q465 := eq_true q465
                                  go_wp2
                                  repeat (go_quiet (fail); try go_wp2)
                                  go_ret2
                                  exact ⟨_, by first | rfl | (simp [errW_none, errW_some] <;> rfl) | (simp only [← hji18, ← hji28]; first | rfl | (simp [errW_none, errW_some] <;> rfl)) | (simp [*, errW_none, errW_some] <;> rfl), by first | exact Kd.R_nil _ _ _ _ _ | exact Kd.N_nil _ _ _ _ _ | exact Kd.V_nil _ _ _ _ _ | exact Kd.Q_nil _ _ _ _ _ | exact Kd.S_nil _ _ _ _ _, by repeat (first | (with_reducible first | exact HB.out | apply below_alloc | apply pw_below_drewN | apply below_drew1) | exact HB.out)⟩
                                · rw [if_neg c32] at H
                                  have c32b0 : decide (((rd_T58 y461 x9_2).f0) < ((rd_T58 y461 (ji28)).f0)) = false := decide_eq_false c32
                                  clear c32
                                  have H' := Aside0.mk H
                                  clear H
                                  obtain ⟨Ao34, co34, eo34⟩ := Kd.R_slice HO_8.out
                                  subst eo34
                                  have p464 : 0 ≤ ((ji28) : Int) := of_decide_eq_true (by first | (with_reducible assumption) | assumption)
                                  have q464 : (ji28) < (y461.length : Int) := of_decide_eq_true (by first | (with_reducible assumption) | assumption)
                                  obtain ⟨ad464, e464, hx464_0, hx464_1, hx464_2, hx464_3, hx464_4, hx464_5⟩ := at_T58 (Kd.R_reads' HO_8.out).2.2 (ji28) p464 q464
                                  cases e464
                                  replace p464 := eq_true p464
                                  replace q464 := eq_true q464
                                  have p465 : 0 ≤ (x9_2 : Int) := of_decide_eq_true (by first | (with_reducible assumption) | assumption)
                                  have q465 : x9_2 < (y461.length : Int) := of_decide_eq_true (by first | (with_reducible assumption) | assumption)
                                  obtain ⟨ad465, e465, hx465_0, hx465_1, hx465_2, hx465_3, hx465_4, hx465_5⟩ := at_T58 (Kd.R_reads' HO_8.out).2.2 x9_2 p465 q465
                                  obtain rfl : ad464 = ad465 := (by injection e465)
                                  replace p465 := eq_true p465
                                  replace q465 := eq_true q465
                                  go_wp2
                                  repeat (go_quiet (fail); try go_wp2)
                                  go_roundg k2
                                  case measure => have := HK1.out; have := HK2.out; omega
                                  case rel => exact ⟨(wrap64 (x9_2 + 1)), (by first | rfl | (simp; done) | (simp [*]; done)), H', ⟨by have := HK1.out; have := HK2.out; omega⟩, ⟨by (with_reducible repeat (first | apply Kd.R_alloc | apply Kd.R_drewN | apply Kd.R_drew)); exact HO_8.out⟩, ⟨by repeat (first | (with_reducible first | exact HB.out | apply below_alloc | apply pw_below_drewN | apply below_drew1) | exact HB.out)⟩⟩
                              · rw [if_neg c31] at H
                                exact absurd H (by simp)
                            · rw [if_neg c30] at H
                              exact absurd H (by simp)
                          · rw [if_neg c29] at H
                            exact absurd H (by simp)
                        · rw [if_neg c27] at H
                          have c27b0 : decide (x9_2 < (y461.length : Int)) = false := decide_eq_false c27
                          clear c27
                          simp only [Option.some.injEq, Prod.mk.injEq] at H
                          obtain ⟨rfl, rfl⟩ := H
                          obtain ⟨Ao35, co35, eo35⟩ := Kd.R_slice HO_8.out
                          subst eo35
                          go_wp2
                          repeat (go_quiet (fail); try go_wp2)
                          go_ret2
                          exact ⟨_, by first | rfl | (simp [errW_none, errW_some] <;> rfl) | (simp only [← hji18]; first | rfl | (simp [errW_none, errW_some] <;> rfl)) | (simp [*, errW_none, errW_some] <;> rfl), by (with_reducible repeat (first | apply Kd.R_alloc | apply Kd.R_drewN | apply Kd.R_drew)); exact HO_8.out, by repeat (first | (with_reducible first | exact HB.out | apply below_alloc | apply pw_below_drewN | apply below_drew1) | exact HB.out)⟩
                  · rw [if_neg c22] at H
                    exact absurd H (by simp)
                · rw [if_neg c21] at H
                  exact absurd H (by simp)
              · rw [if_neg c20] at H
                exact absurd H (by simp)
            · rw [if_neg c19] at H
              exact absurd H (by simp)
  · replace c4 := Bool.eq_false_iff.mpr c4
    subst c4
    have H1 : (some (([] : List (S58)), 1)) = some (r1, r2) := by rw [if_neg (show ¬ (false = true) by decide)] at H; exact H
    clear H
    have H := H1
    clear H1
    simp only [Option.some.injEq, Prod.mk.injEq] at H
    obtain ⟨rfl, rfl⟩ := H
    go_enter Try.func31, Try.ntmps31
    go_wp2_with (first | (go_at_call 44; (with_reducible refine (book_Book.calls k _ _ l0 false _ ?side1 ?side2 A3.out).mono ?_); (case side1 => repeat (first | exact HR0.out | (with_reducible refine Kd.C_alloc ?_ _) | (with_reducible refine Kd.C_drewN ?_ _) | (with_reducible refine Kd.C_drew ?_))); (case side2 => exact HC0.out); rintro e w36 ⟨rfl, hb⟩; have n0_ := Aside0.mk (below_step (by repeat (first | (with_reducible first | exact HB.out | apply below_alloc | apply pw_below_drewN | apply below_drew1) | exact HB.out)) hb); clear HB; have HB := n0_; clear n0_; (try clear hb); (try clear hb2); (try clear hk); (try clear hi)))
    repeat (go_quiet (first | (go_at_call 44; (with_reducible refine (book_Book.calls k _ _ l0 false _ ?side1 ?side2 A3.out).mono ?_); (case side1 => repeat (first | exact HR0.out | (with_reducible refine Kd.C_alloc ?_ _) | (with_reducible refine Kd.C_drewN ?_ _) | (with_reducible refine Kd.C_drew ?_))); (case side2 => exact HC0.out); rintro e w36 ⟨rfl, hb⟩; have n0_ := Aside0.mk (below_step (by repeat (first | (with_reducible first | exact HB.out | apply below_alloc | apply pw_below_drewN | apply below_drew1) | exact HB.out)) hb); clear HB; have HB := n0_; clear n0_; (try clear hb); (try clear hb2); (try clear hk); (try clear hi))); try go_wp2_with (first | (go_at_call 44; (with_reducible refine (book_Book.calls k _ _ l0 false _ ?side1 ?side2 A3.out).mono ?_); (case side1 => repeat (first | exact HR0.out | (with_reducible refine Kd.C_alloc ?_ _) | (with_reducible refine Kd.C_drewN ?_ _) | (with_reducible refine Kd.C_drew ?_))); (case side2 => exact HC0.out); rintro e w36 ⟨rfl, hb⟩; have n0_ := Aside0.mk (below_step (by repeat (first | (with_reducible first | exact HB.out | apply below_alloc | apply pw_below_drewN | apply below_drew1) | exact HB.out)) hb); clear HB; have HB := n0_; clear n0_; (try clear hb); (try clear hb2); (try clear hk); (try clear hi))))
    go_ret2
    exact ⟨_, by first | rfl | (simp [errW_none, errW_some] <;> rfl) | (simp [*, errW_none, errW_some] <;> rfl), by first | exact Kd.R_nil _ _ _ _ _ | exact Kd.N_nil _ _ _ _ _ | exact Kd.V_nil _ _ _ _ _ | exact Kd.Q_nil _ _ _ _ _ | exact Kd.S_nil _ _ _ _ _, by repeat (first | (with_reducible first | exact HB.out | apply below_alloc | apply pw_below_drewN | apply below_drew1) | exact HB.out)⟩

/-! ### payrollref32_Same: function 32 -/
def payrollref32_Same.l0 : Nat → List (S56) → List (S56) → Int → Option (Bool)
  | 0, _, _, _ => none
  | k + 1, x0, x1, x5 => if x5 < (x0.length : Int) then (if 0 ≤ x5 then (if x5 < (x1.length : Int) then (if (!(((rd_T56 x0 x5).f0) == ((rd_T56 x1 x5).f0)) || (!((((rd_T56 x0 x5).f1).toList) == (((rd_T56 x1 x5).f1).toList)) || (!(((rd_T56 x0 x5).f2) == ((rd_T56 x1 x5).f2))))) = true then (some false) else (payrollref32_Same.l0 k x0 x1 (wrap64 (x5 + 1)))) else (none)) else (none)) else (some true)
def payrollref32_Same.f (k : Nat) (l0 : List (S56)) (l1 : List (S56)) : Option (Bool) := if (l0.length : Int) = (l1.length : Int) then (payrollref32_Same.l0 k l0 l1 0) else (some false)
theorem payrollref32_Same.mono_l : ∀ k, (∀ y0 y1 y2, LeO (payrollref32_Same.l0 k y0 y1 y2) (payrollref32_Same.l0 (k + 1) y0 y1 y2))
  | 0 => fun _ _ _ r h => by simp [payrollref32_Same.l0] at h
  | k + 1 => by
    have ih0 := payrollref32_Same.mono_l k
    · intro y0 y1 y2
      unfold payrollref32_Same.l0
      repeat' first
      | (with_reducible exact ih0 _ _ _)
      | (with_reducible exact LeO.refl _)
      | (with_reducible exact LeO.none _)
      | (with_reducible refine LeO.ite ?_ ?_)
      | (with_reducible refine LeO.bind ?_ (fun _ => ?_))
      | exact ih0 _ _ _
      | exact LeO.none _
      | refine LeO.ite ?_ ?_
      | refine LeO.bind ?_ (fun _ => ?_)
theorem payrollref32_Same.mono : ∀ a0 a1 k, LeO (payrollref32_Same.f k a0 a1) (payrollref32_Same.f (k + 1) a0 a1) := by
  intro a0 a1 k
  have ih0 := payrollref32_Same.mono_l k
  unfold payrollref32_Same.f
  repeat' first
      | (with_reducible exact ih0 _ _ _)
      | (with_reducible exact LeO.refl _)
      | (with_reducible exact LeO.none _)
      | (with_reducible refine LeO.ite ?_ ?_)
      | (with_reducible refine LeO.bind ?_ (fun _ => ?_))
      | exact ih0 _ _ _
      | exact LeO.none _
      | refine LeO.ite ?_ ?_
      | refine LeO.bind ?_ (fun _ => ?_)
set_option maxHeartbeats 8000000 in
set_option maxRecDepth 100000 in
theorem payrollref32_Same.calls (k : Nat) (A0 : Option Addr) (c0 : Nat) (l0 : List (S56)) (A1 : Option Addr) (c1 : Nat) (l1 : List (S56)) (r : Bool) (w : World) (hr0 : Kd.C k56 w A0 l0.length l0) (hc0 : l0.length ≤ c0) (hr1 : Kd.C k56 w A1 l1.length l1) (hc1 : l1.length ≤ c1) (h : payrollref32_Same.f k l0 l1 = some r) :
    Calls Try.prog 32 #[.slice A0 l0.length c0, .slice A1 l1.length c1] w fun e w' => e = .returned (.bool r) ∧ Drawn0 w w' := by
  have hu56 := Try.underlying56
  have HR0 := Aside0.mk hr0
  have HC0 := Aside0.mk hc0
  clear hr0 hc0
  have HR1 := Aside0.mk hr1
  have HC1 := Aside0.mk hc1
  clear hr1 hc1
  have H : (if (l0.length : Int) = (l1.length : Int) then (payrollref32_Same.l0 k l0 l1 0) else (some false)) = some r := h
  clear h
  by_cases c3 : (l0.length : Int) = (l1.length : Int)
  · rw [if_pos c3] at H
    have c3b0 : ((l0.length : Int) == (l1.length : Int)) = true := beq_iff_eq.mpr c3
    have c3b1 : ((l0.length : Int) != (l1.length : Int)) = false := bne_eq_false_iff_eq.mpr c3
    have c3b2 : (l0.length == l1.length) = true := by first | simpa using c3 | (simp at c3 ⊢; omega)
    clear c3
    have H' := Aside0.mk H
    clear H
    go_enter Try.func32, Try.ntmps32
    go_wp2
    repeat (go_quiet (fail); try go_wp2)
    go_loopg [5] k (fun kq v5 w' => ∃ (x5_1 : Int), v5 = .int .i64 x5_1 ∧ Aside0 (payrollref32_Same.l0 kq l0 l1 x5_1 = some r) ∧ Aside0 (kq ≤ k) ∧ Drawn0 w w')
    case atStart => exact ⟨(0), (by first | rfl | (simp; done) | (simp [*]; done)), H', ⟨Nat.le_refl _⟩, by repeat (first | exact Drawn0.refl _ | apply Drawn0.step)⟩
    case round =>
      clear H'
      try clear c1
      try clear p2
      try clear c3
      try clear c3b0
      try clear c3b1
      try clear c3b2
      obtain ⟨x5_1, rfl, HA, HK1, ⟨m1, rfl⟩⟩ := hrel
      cases gk with
      | zero => exact absurd HA.out (by simp [payrollref32_Same.l0])
      | succ k1 =>
        have H := HA.out
        clear HA
        simp only [payrollref32_Same.l0] at H
        by_cases c4 : x5_1 < (l0.length : Int)
        · rw [if_pos c4] at H
          have c4b0 : decide (x5_1 < (l0.length : Int)) = true := decide_eq_true c4
          clear c4
          by_cases c5 : 0 ≤ x5_1
          · rw [if_pos c5] at H
            have c5b0 : decide (0 ≤ x5_1) = true := decide_eq_true c5
            clear c5
            by_cases c6 : x5_1 < (l1.length : Int)
            · rw [if_pos c6] at H
              have c6b0 : decide (x5_1 < (l1.length : Int)) = true := decide_eq_true c6
              clear c6
              by_cases c7 : (!(((rd_T56 l0 x5_1).f0) == ((rd_T56 l1 x5_1).f0)) || (!((((rd_T56 l0 x5_1).f1).toList) == (((rd_T56 l1 x5_1).f1).toList)) || (!(((rd_T56 l0 x5_1).f2) == ((rd_T56 l1 x5_1).f2))))) = true
              · rw [if_pos c7] at H
                have c7b0 : (!(((rd_T56 l0 x5_1).f0) == ((rd_T56 l1 x5_1).f0)) || (!((((rd_T56 l0 x5_1).f1).toList) == (((rd_T56 l1 x5_1).f1).toList)) || (!(((rd_T56 l0 x5_1).f2) == ((rd_T56 l1 x5_1).f2))))) = true := c7
                clear c7
                obtain rfl := Option.some.inj H
                have p466 : 0 ≤ (x5_1 : Int) := of_decide_eq_true (by first | (with_reducible assumption) | assumption)
                have q466 : x5_1 < (l0.length : Int) := of_decide_eq_true (by first | (with_reducible assumption) | assumption)
                obtain ⟨ad466, e466, hx466_0, hx466_1, hx466_2⟩ := at_T56 HR0.out x5_1 p466 q466
                cases e466
                replace p466 := eq_true p466
                replace q466 := eq_true q466
                have p467 : 0 ≤ (x5_1 : Int) := of_decide_eq_true (by first | (with_reducible assumption) | assumption)
                have q467 : x5_1 < (l1.length : Int) := of_decide_eq_true (by first | (with_reducible assumption) | assumption)
                obtain ⟨ad467, e467, hx467_0, hx467_1, hx467_2⟩ := at_T56 HR1.out x5_1 p467 q467
                cases e467
                replace p467 := eq_true p467
                replace q467 := eq_true q467
                go_wp2
                repeat (go_quiet (fail); try go_wp2)
                go_ret
                exact ⟨by first | rfl | (simp; done) | (simp [*]; done), by repeat (first | exact Drawn0.refl _ | apply Drawn0.step)⟩
              · rw [if_neg c7] at H
                have c7b0 : (!(((rd_T56 l0 x5_1).f0) == ((rd_T56 l1 x5_1).f0)) || (!((((rd_T56 l0 x5_1).f1).toList) == (((rd_T56 l1 x5_1).f1).toList)) || (!(((rd_T56 l0 x5_1).f2) == ((rd_T56 l1 x5_1).f2))))) = false := by simpa using c7
                clear c7
                have H' := Aside0.mk H
                clear H
                have p466 : 0 ≤ (x5_1 : Int) := of_decide_eq_true (by first | (with_reducible assumption) | assumption)
                have q466 : x5_1 < (l0.length : Int) := of_decide_eq_true (by first | (with_reducible assumption) | assumption)
                obtain ⟨ad466, e466, hx466_0, hx466_1, hx466_2⟩ := at_T56 HR0.out x5_1 p466 q466
                cases e466
                replace p466 := eq_true p466
                replace q466 := eq_true q466
                have p467 : 0 ≤ (x5_1 : Int) := of_decide_eq_true (by first | (with_reducible assumption) | assumption)
                have q467 : x5_1 < (l1.length : Int) := of_decide_eq_true (by first | (with_reducible assumption) | assumption)
                obtain ⟨ad467, e467, hx467_0, hx467_1, hx467_2⟩ := at_T56 HR1.out x5_1 p467 q467
                cases e467
                replace p467 := eq_true p467
                replace q467 := eq_true q467
                go_wp2
                repeat (go_quiet (fail); try go_wp2)
                go_roundg k1
                case measure => have := HK1.out; omega
                case rel => exact ⟨(wrap64 (x5_1 + 1)), (by first | rfl | (simp; done) | (simp [*]; done)), H', ⟨by have := HK1.out; omega⟩, by repeat (first | exact Drawn0.refl _ | apply Drawn0.step)⟩
            · rw [if_neg c6] at H
              exact absurd H (by simp)
          · rw [if_neg c5] at H
            exact absurd H (by simp)
        · rw [if_neg c4] at H
          have c4b0 : decide (x5_1 < (l0.length : Int)) = false := decide_eq_false c4
          clear c4
          obtain rfl := Option.some.inj H
          go_wp2
          repeat (go_quiet (fail); try go_wp2)
          go_ret
          exact ⟨by first | rfl | (simp; done) | (simp [*]; done), by repeat (first | exact Drawn0.refl _ | apply Drawn0.step)⟩
  · rw [if_neg c3] at H
    have c3b0 : ((l0.length : Int) == (l1.length : Int)) = false := beq_eq_false_iff_ne.mpr c3
    have c3b1 : ((l0.length : Int) != (l1.length : Int)) = true := bne_iff_ne.mpr c3
    have c3b2 : (l0.length == l1.length) = false := by first | simpa using c3 | (simp at c3 ⊢; omega)
    obtain rfl := Option.some.inj H
    go_enter Try.func32, Try.ntmps32
    go_wp2
    repeat (go_quiet (fail); try go_wp2)
    go_ret
    exact ⟨by first | rfl | (simp; done) | (simp [*]; done), by repeat (first | exact Drawn0.refl _ | apply Drawn0.step)⟩

/-! ### book_Result: function 33 -/
section ResultExt
open Go.Proofs.Ytdlljjglmcpniaa.MapKit Go.Proofs.Ytdlljjglmcpniaa.ListKit
def predResult (employee : Int) (period : Int) (p : S58) : Bool := p.f1 == employee && p.f2 == period
def linesResult (employee period : Int) (l : List S58) : List S56 := (l.filter (predResult employee period)).map (·.f3)
def book_Result.f (k : Nat) (l0 : List S58) (employee : Int) (period : Int) : Option (List S56) := (book_Book.f k l0).bind fun b => if b = true then (payslip_Merge.f k (linesResult employee period l0)).bind (fun r => if r.2 = 0 then some r.1 else some []) else some []
theorem book_Result.mono : ∀ a0 employee period k, LeO (book_Result.f k a0 employee period) (book_Result.f (k + 1) a0 employee period) := by
  intro a0 employee period k
  unfold book_Result.f
  refine LeO.bind (book_Book.mono _ _) fun b => ?_
  by_cases hb : b = true
  · rw [if_pos hb, if_pos hb]; exact LeO.bind (payslip_Merge.mono _ _) fun _ => LeO.refl _
  · rw [if_neg hb, if_neg hb]; exact LeO.refl _
theorem rdP_takeResult (l : List S58) (x : Int) (h0 : 0 ≤ x) (h : x < (l.length : Int)) : l.take (x + 1).toNat = l.take x.toNat ++ [rd_T58 l x] := by
  have hlt : x.toNat < l.length := by omega
  rw [show (x + 1).toNat = x.toNat + 1 by omega, List.take_succ_eq_append_getElem hlt]
  simp [rd_T58, List.getD_eq_getElem?_getD, List.getElem?_eq_getElem hlt]
set_option maxHeartbeats 8000000 in
set_option maxRecDepth 100000 in
theorem predResult_calls (employee period : Int) (ge gp : Nat) (x : S58) (W : World) (hge : W.heap[ge]? = some (.cells #[.int .i64 employee] 3 (0, 0))) (hgp : W.heap[gp]? = some (.cells #[.int .i64 period] 3 (0, 0))) : Calls Try.prog 47 #[.agg #[.int .i64 x.f0, .int .i64 x.f1, .int .i64 x.f2, .int .i64 x.f3.f0, .string x.f3.f1, .int .i64 x.f3.f2], .pointer (some ⟨ge, 0, none⟩), .pointer (some ⟨gp, 0, none⟩)] W fun e w' => e = .returned (.bool (predResult employee period x)) ∧ Below W.heap.size W w' := by
  have HB := Aside0.mk (Below.refl W.heap.size W)
  have BCge := Aside0.mk hge
  have BCgp := Aside0.mk hgp
  clear hge hgp
  unfold predResult
  by_cases c1 : x.f1 = employee
  · have c1b0 : (x.f1 == employee) = true := beq_iff_eq.2 c1
    rw [c1b0, Bool.true_and]
    clear c1
    go_enter Try.func47, Try.ntmps47
    go_wp2_with (first | ((with_reducible refine gate_dst (N := 3) rfl ?_); refine box_event ?hg (N := 3) ?hd (cs := #[.int .i64 x.f0, .int .i64 x.f1, .int .i64 x.f2, .int .i64 x.f3.f0, .string x.f3.f1, .int .i64 x.f3.f2]) (t := 58) ?hr ?_; (case hd => rfl); (case hg => rfl); (case hr => first | (go_simp; done) | (go_simp; rfl)); intro gb2 hg w7 hbox hb; have n0_ := Aside0.mk (below_step HB.out hb); clear HB; have HB := n0_; clear n0_; have hz0 : w7.cell? ⟨gb2, 0, none⟩ = some (.int .i64 x.f0) := (blk_cell hbox 0).trans rfl; have hf0 := blk_frozen hbox 0; have hz1 : w7.cell? ⟨gb2, 1, none⟩ = some (.int .i64 x.f1) := (blk_cell hbox 1).trans rfl; have hf1 := blk_frozen hbox 1; have hz2 : w7.cell? ⟨gb2, 2, none⟩ = some (.int .i64 x.f2) := (blk_cell hbox 2).trans rfl; have hf2 := blk_frozen hbox 2; have hz3 : w7.cell? ⟨gb2, 3, none⟩ = some (.int .i64 x.f3.f0) := (blk_cell hbox 3).trans rfl; have hf3 := blk_frozen hbox 3; have hz4 : w7.cell? ⟨gb2, 4, none⟩ = some (.string x.f3.f1) := (blk_cell hbox 4).trans rfl; have hf4 := blk_frozen hbox 4; have hz5 : w7.cell? ⟨gb2, 5, none⟩ = some (.int .i64 x.f3.f2) := (blk_cell hbox 5).trans rfl; have hf5 := blk_frozen hbox 5; have hcge : w7.cell? ⟨ge, 0, none⟩ = some (.int .i64 employee) := (blk_cell (blk_below BCge.out hb) 0).trans rfl; have hcgp : w7.cell? ⟨gp, 0, none⟩ = some (.int .i64 period) := (blk_cell (blk_below BCgp.out hb) 0).trans rfl; clear hbox hb hg))
    repeat (go_quiet (fail); try go_wp2)
    go_ret
    exact ⟨by first | rfl | (simp [*] <;> rfl), by repeat (first | exact HB.out | apply pw_below_drewN | apply below_drew1)⟩
  · have c1b0 : (x.f1 == employee) = false := beq_eq_false_iff_ne.2 c1
    rw [c1b0, Bool.false_and]
    clear c1
    go_enter Try.func47, Try.ntmps47
    go_wp2_with (first | ((with_reducible refine gate_dst (N := 3) rfl ?_); refine box_event ?hg (N := 3) ?hd (cs := #[.int .i64 x.f0, .int .i64 x.f1, .int .i64 x.f2, .int .i64 x.f3.f0, .string x.f3.f1, .int .i64 x.f3.f2]) (t := 58) ?hr ?_; (case hd => rfl); (case hg => rfl); (case hr => first | (go_simp; done) | (go_simp; rfl)); intro gb2 hg w7 hbox hb; have n0_ := Aside0.mk (below_step HB.out hb); clear HB; have HB := n0_; clear n0_; have hz0 : w7.cell? ⟨gb2, 0, none⟩ = some (.int .i64 x.f0) := (blk_cell hbox 0).trans rfl; have hf0 := blk_frozen hbox 0; have hz1 : w7.cell? ⟨gb2, 1, none⟩ = some (.int .i64 x.f1) := (blk_cell hbox 1).trans rfl; have hf1 := blk_frozen hbox 1; have hz2 : w7.cell? ⟨gb2, 2, none⟩ = some (.int .i64 x.f2) := (blk_cell hbox 2).trans rfl; have hf2 := blk_frozen hbox 2; have hz3 : w7.cell? ⟨gb2, 3, none⟩ = some (.int .i64 x.f3.f0) := (blk_cell hbox 3).trans rfl; have hf3 := blk_frozen hbox 3; have hz4 : w7.cell? ⟨gb2, 4, none⟩ = some (.string x.f3.f1) := (blk_cell hbox 4).trans rfl; have hf4 := blk_frozen hbox 4; have hz5 : w7.cell? ⟨gb2, 5, none⟩ = some (.int .i64 x.f3.f2) := (blk_cell hbox 5).trans rfl; have hf5 := blk_frozen hbox 5; have hcge : w7.cell? ⟨ge, 0, none⟩ = some (.int .i64 employee) := (blk_cell (blk_below BCge.out hb) 0).trans rfl; have hcgp : w7.cell? ⟨gp, 0, none⟩ = some (.int .i64 period) := (blk_cell (blk_below BCgp.out hb) 0).trans rfl; clear hbox hb hg))
    repeat (go_quiet (fail); try go_wp2)
    go_ret
    exact ⟨by first | rfl | (simp [*] <;> rfl), by repeat (first | exact HB.out | apply pw_below_drewN | apply below_drew1)⟩
theorem book_shortResult (k : Nat) (l : List S58) (h : book_Book.f k l = some true) : l.length ≤ 65536 := by
  unfold book_Book.f at h
  by_cases c : (l.length : Int) > 65536
  · rw [if_pos c] at h; cases h
  · omega
set_option maxHeartbeats 8000000 in
set_option maxRecDepth 100000 in
theorem mergedResult (k : Nat) (A0 : Option Addr) (c0 : Nat) (l0 : List S58) (employee period : Int) (ge gp : Nat) (r : List S56) (w : World) (hr0 : Kd.C k58 w A0 l0.length l0) (hc0 : l0.length ≤ c0) (hge : w.heap[ge]? = some (.cells #[.int .i64 employee] 3 (0, 0))) (hgp : w.heap[gp]? = some (.cells #[.int .i64 period] 3 (0, 0))) (h : book_Result.f k l0 employee period = some r) :
    Calls Try.prog 46 #[.slice A0 l0.length c0, .func (.func 47) #[] #[.pointer (some ⟨ge, 0, none⟩), .pointer (some ⟨gp, 0, none⟩)]] w fun e w' => ∃ v0_ : Value, e = .returned v0_ ∧ Kd.R k56 56 w' w.heap.size (fun _ => True) v0_ r ∧ Below w.heap.size w w' := by
  have hu27 := Try.underlying58
  have hu25 := Try.underlying56
  have HR0 := Aside0.mk hr0
  have HC0 := Aside0.mk hc0
  have BCge := Aside0.mk hge
  have BCgp := Aside0.mk hgp
  clear hr0 hc0 hge hgp
  have HB := Aside0.mk (Below.refl w.heap.size w)
  unfold book_Result.f at h
  obtain ⟨b, A10, H⟩ := Option.bind_eq_some_iff.1 h
  have A1 := Aside0.mk A10
  clear h A10
  cases b with
  | false =>
    simp only [Bool.false_eq_true, if_false, Option.some.injEq] at H
    subst H
    go_enter Try.func46, Try.ntmps46
    go_wp2_with (first | ((with_reducible refine gate_callee (f := 44) rfl ?_); refine goesL_ (some 11) rfl rfl Try.func44 (by kernel_rfl) rfl #[.slice A0 l0.length c0] rfl (by (try simp only [List.map_toArray, List.map_cons, List.map_nil]); first | done | rfl) ?_; (with_reducible refine (book_Book.calls k _ _ l0 false _ ?side1 ?side2 A1.out).mono ?_); (case side1 => exact HR0.out); (case side2 => exact HC0.out); rintro e w4 ⟨rfl, hb⟩; refine ⟨_, rfl, ?_⟩; have n0_ := Aside0.mk (below_step HB.out hb); clear HB; have HB := n0_; clear n0_ hb))
    go_ret
    exact ⟨_, by first | rfl | (simp [*] <;> rfl), Kd.R_nil _ _ _ _ _, HB.out⟩
  | true =>
    simp only [if_true] at H
    obtain ⟨⟨m, t⟩, A20, H⟩ := Option.bind_eq_some_iff.1 H
    replace H : (if t = 0 then some m else some []) = some r := H
    have A2_ := Aside0.mk A20
    have H' := Aside0.mk H
    have HL := Aside0.mk (book_shortResult k l0 A1.out)
    clear A20 H
    go_enter Try.func46, Try.ntmps46
    go_wp2_with (first | ((with_reducible refine gate_callee (f := 44) rfl ?_); refine goesL_ (some 11) rfl rfl Try.func44 (by kernel_rfl) rfl #[.slice A0 l0.length c0] rfl (by (try simp only [List.map_toArray, List.map_cons, List.map_nil]); first | done | rfl) ?_; (with_reducible refine (book_Book.calls k _ _ l0 true _ ?side1 ?side2 A1.out).mono ?_); (case side1 => exact HR0.out); (case side2 => exact HC0.out); rintro e w4 ⟨rfl, hb⟩; refine ⟨_, rfl, ?_⟩; have n0_ := Aside0.mk (below_step HB.out hb); clear HB; have HB := n0_; clear n0_ hb))
    try go_frame
    go_loopw [5, 15] (fun v i wr => ∃ (x : Int) (out : List S56), i = .int .i64 x ∧ Aside0 (0 ≤ x ∧ x ≤ l0.length) ∧ Aside0 (out = linesResult employee period (l0.take x.toNat)) ∧ Aside0 ((out.length : Int) ≤ x) ∧ Aside0 (Kd.R k56 56 wr w.heap.size (fun _ => True) v out) ∧ Aside0 (Below w.heap.size w wr)) (fun _ i _ => l0.length - (intOf i).toNat)
    case atStart => exact ⟨0, [], rfl, ⟨by omega, by omega⟩, ⟨by simp [linesResult]⟩, ⟨by simp⟩, ⟨Kd.R_nil _ _ _ _ _⟩, HB⟩
    case round =>
      clear HB
      obtain ⟨x, out, rfl, HX, HE, HOL, HO, HB⟩ := hrel
      by_cases c7 : x < (l0.length : Int)
      · have c7b0 : decide (x < (l0.length : Int)) = true := decide_eq_true c7
        have p117 : 0 ≤ x := HX.out.1
        have q117 : x < (l0.length : Int) := c7
        have HY := Aside0.mk c7
        have hst := Aside0.mk (rdP_takeResult l0 x p117 c7)
        clear c7
        obtain ⟨ad117, e117, hx117_0, hx117_1, hx117_2, hx117_3, hx117_4, hx117_5⟩ := at_T58 HR0.out x p117 q117
        cases e117
        replace hx117_0 := pw_cell_below HB.out hx117_0
        replace hx117_1 := pw_cell_below HB.out hx117_1
        replace hx117_2 := pw_cell_below HB.out hx117_2
        replace hx117_3 := pw_cell_below HB.out hx117_3
        replace hx117_4 := pw_cell_below HB.out hx117_4
        replace hx117_5 := pw_cell_below HB.out hx117_5
        replace p117 := eq_true p117
        replace q117 := eq_true q117
        obtain ⟨pj, hpj⟩ : ∃ pj, pj = rd_T58 l0 x := ⟨_, rfl⟩
        rw [← hpj] at hst hx117_0 hx117_1 hx117_2 hx117_3 hx117_4 hx117_5
        clear hpj
        obtain ⟨b, hbv⟩ : ∃ b, predResult employee period pj = b := ⟨_, rfl⟩
        have HBV := Aside0.mk hbv
        clear hbv
        cases b with
        | true =>
          go_wp2_with (first
            | ((with_reducible refine gate_dst (N := 7) rfl ?_); refine box_event ?hg (N := 7) ?hd (cs := #[.int .i64 0, .int .i64 0, .int .i64 0, .int .i64 0, .string ⟨#[]⟩, .int .i64 0]) (t := 58) ?hr ?_; (case hd => rfl); (case hg => rfl); (case hr => first | (go_simp; done) | (go_simp; rfl)); intro gb2 hg w7 hbox hb; have n0_ := Aside0.mk (below_step HB.out hb); have n1_ := Aside0.mk (lineFlat.kept HO.out (grown_of_below hb none) (fun k hk e => by cases e)); have GE2 := Aside0.mk ((by rw [hg]; exact below_size HB.out) : w.heap.size ≤ gb2); have NE2 := Aside0.mk (Kd.R_ne n1_.out hbox (by decide)); have BK := Aside0.mk hbox; clear HB HO; have HB := n0_; have HO := n1_; clear n0_ n1_ hb hg; have hz0 : w7.cell? ⟨gb2, 0, none⟩ = some (.int .i64 0) := (blk_cell hbox 0).trans rfl; have hf0 := blk_frozen hbox 0; have hz1 : w7.cell? ⟨gb2, 1, none⟩ = some (.int .i64 0) := (blk_cell hbox 1).trans rfl; have hf1 := blk_frozen hbox 1; have hz2 : w7.cell? ⟨gb2, 2, none⟩ = some (.int .i64 0) := (blk_cell hbox 2).trans rfl; have hf2 := blk_frozen hbox 2; have hz3 : w7.cell? ⟨gb2, 3, none⟩ = some (.int .i64 0) := (blk_cell hbox 3).trans rfl; have hf3 := blk_frozen hbox 3; have hz4 : w7.cell? ⟨gb2, 4, none⟩ = some (.string ⟨#[]⟩) := (blk_cell hbox 4).trans rfl; have hf4 := blk_frozen hbox 4; have hz5 : w7.cell? ⟨gb2, 5, none⟩ = some (.int .i64 0) := (blk_cell hbox 5).trans rfl; have hf5 := blk_frozen hbox 5; clear hbox)
            | (go_at_call 47; (with_reducible refine (predResult_calls employee period ge gp pj _ (blk_far (blk_far (blk_far (blk_far (blk_far (blk_far (blk_below BCge.out HB.out) (show ge ≠ gb2 from Nat.ne_of_lt (Nat.lt_of_lt_of_le (blk_lt BCge.out) GE2.out)) _) (show ge ≠ gb2 from Nat.ne_of_lt (Nat.lt_of_lt_of_le (blk_lt BCge.out) GE2.out)) _) (show ge ≠ gb2 from Nat.ne_of_lt (Nat.lt_of_lt_of_le (blk_lt BCge.out) GE2.out)) _) (show ge ≠ gb2 from Nat.ne_of_lt (Nat.lt_of_lt_of_le (blk_lt BCge.out) GE2.out)) _) (show ge ≠ gb2 from Nat.ne_of_lt (Nat.lt_of_lt_of_le (blk_lt BCge.out) GE2.out)) _) (show ge ≠ gb2 from Nat.ne_of_lt (Nat.lt_of_lt_of_le (blk_lt BCge.out) GE2.out)) _) (blk_far (blk_far (blk_far (blk_far (blk_far (blk_far (blk_below BCgp.out HB.out) (show gp ≠ gb2 from Nat.ne_of_lt (Nat.lt_of_lt_of_le (blk_lt BCgp.out) GE2.out)) _) (show gp ≠ gb2 from Nat.ne_of_lt (Nat.lt_of_lt_of_le (blk_lt BCgp.out) GE2.out)) _) (show gp ≠ gb2 from Nat.ne_of_lt (Nat.lt_of_lt_of_le (blk_lt BCgp.out) GE2.out)) _) (show gp ≠ gb2 from Nat.ne_of_lt (Nat.lt_of_lt_of_le (blk_lt BCgp.out) GE2.out)) _) (show gp ≠ gb2 from Nat.ne_of_lt (Nat.lt_of_lt_of_le (blk_lt BCgp.out) GE2.out)) _) (show gp ≠ gb2 from Nat.ne_of_lt (Nat.lt_of_lt_of_le (blk_lt BCgp.out) GE2.out)) _)).mono ?_); rintro e w9 ⟨rfl, hb⟩; rw [HBV.out]; have n0_ := Aside0.mk (below_step (below_set (below_set (below_set (below_set (below_set (below_set HB.out GE2.out) GE2.out) GE2.out) GE2.out) GE2.out) GE2.out) hb); have n1_ := Aside0.mk (Kd.R_below (lineFlat.kept (lineFlat.kept (lineFlat.kept (lineFlat.kept (lineFlat.kept (lineFlat.kept HO.out (pset_grown _ ⟨gb2, 0, none⟩ _) (fun k hk e => NE2.out (e.symm.trans hk.symm))) (pset_grown _ ⟨gb2, 1, none⟩ _) (fun k hk e => NE2.out (e.symm.trans hk.symm))) (pset_grown _ ⟨gb2, 2, none⟩ _) (fun k hk e => NE2.out (e.symm.trans hk.symm))) (pset_grown _ ⟨gb2, 3, none⟩ _) (fun k hk e => NE2.out (e.symm.trans hk.symm))) (pset_grown _ ⟨gb2, 4, none⟩ _) (fun k hk e => NE2.out (e.symm.trans hk.symm))) (pset_grown _ ⟨gb2, 5, none⟩ _) (fun k hk e => NE2.out (e.symm.trans hk.symm))) hb); have n2_ : Aside0 (w9.heap[gb2]? = some (.cells #[.int .i64 pj.f0, .int .i64 pj.f1, .int .i64 pj.f2, .int .i64 pj.f3.f0, .string pj.f3.f1, .int .i64 pj.f3.f2] 58 (0, 0))) := Aside0.mk (blk_below (blk_put (blk_put (blk_put (blk_put (blk_put (blk_put BK.out 0 _ rfl) 1 _ rfl) 2 _ rfl) 3 _ rfl) 4 _ rfl) 5 _ rfl) hb); clear HB HO BK hz0 hf0 hz1 hf1 hz2 hf2 hz3 hf3 hz4 hf4 hz5 hf5; have HB := n0_; have HO := n1_; have hbox := n2_.out; clear n0_ n1_ n2_ hb; have hz0 : w9.cell? ⟨gb2, 0, none⟩ = some (.int .i64 pj.f0) := (blk_cell hbox 0).trans rfl; have hf0 := blk_frozen hbox 0; have hz1 : w9.cell? ⟨gb2, 1, none⟩ = some (.int .i64 pj.f1) := (blk_cell hbox 1).trans rfl; have hf1 := blk_frozen hbox 1; have hz2 : w9.cell? ⟨gb2, 2, none⟩ = some (.int .i64 pj.f2) := (blk_cell hbox 2).trans rfl; have hf2 := blk_frozen hbox 2; have hz3 : w9.cell? ⟨gb2, 3, none⟩ = some (.int .i64 pj.f3.f0) := (blk_cell hbox 3).trans rfl; have hf3 := blk_frozen hbox 3; have hz4 : w9.cell? ⟨gb2, 4, none⟩ = some (.string pj.f3.f1) := (blk_cell hbox 4).trans rfl; have hf4 := blk_frozen hbox 4; have hz5 : w9.cell? ⟨gb2, 5, none⟩ = some (.int .i64 pj.f3.f2) := (blk_cell hbox 5).trans rfl; have hf5 := blk_frozen hbox 5; clear hbox)
            | ((with_reducible refine gate_builtin (b := .append) (xs := #[.tmp 22, .tmp 25]) rfl ?_); at_builtin; refine Kd.R_append k56 (w0 := w) w.heap.size rfl (.tmp 22) (.tmp 25) 23 56 (.agg #[(.int .i64 0), (.string ⟨#[]⟩), (.int .i64 0)]) 32 rfl Try.underlying23 info56 rfl (by decide) (by omega) u5 out pj.f3 [.int .i64 pj.f3.f0, .string pj.f3.f1, .int .i64 pj.f3.f2] (fun _ => True) (fun _ => False) rfl rfl ?aP (fun _ hk => hk.elim) ?aF HO.out HB.out (below_size HB.out) ?aL ?_; (case aP => exact k56_mkM _ _ _ pj.f3); (case aF => exact (fun _ _ => trivial)); (case aL => have := HOL.out; have := HX.out; have := HL.out; omega); intro v1 w2 hO hB hg _; have n0_ := Aside0.mk hO; have n1_ := Aside0.mk hB; clear HO HB; have HO := n0_; have HB := n1_; clear n0_ n1_ hO hB hg))
          go_roundw
          case rel =>
            have hx := HX.out
            have hy := HY.out
            have hl := HL.out
            refine ⟨x + 1, out ++ [pj.f3], by first | rfl | (rw [show wrap64 (x + 1) = x + 1 by unfold wrap64; omega]), ⟨by omega, by omega⟩, ⟨?_⟩, ⟨by rw [List.length_append, List.length_singleton]; have := HOL.out; omega⟩, HO, HB⟩
            rw [hst.out, HE.out]
            simp [linesResult, HBV.out]
          case measure =>
            have hx := HX.out
            have hy := HY.out
            have hl := HL.out
            have e : wrap64 (x + 1) = x + 1 := by unfold wrap64; omega
            simp [intOf, e]; omega
        | false =>
          go_wp2_with (first
            | ((with_reducible refine gate_dst (N := 7) rfl ?_); refine box_event ?hg (N := 7) ?hd (cs := #[.int .i64 0, .int .i64 0, .int .i64 0, .int .i64 0, .string ⟨#[]⟩, .int .i64 0]) (t := 58) ?hr ?_; (case hd => rfl); (case hg => rfl); (case hr => first | (go_simp; done) | (go_simp; rfl)); intro gb2 hg w7 hbox hb; have n0_ := Aside0.mk (below_step HB.out hb); have n1_ := Aside0.mk (lineFlat.kept HO.out (grown_of_below hb none) (fun k hk e => by cases e)); have GE2 := Aside0.mk ((by rw [hg]; exact below_size HB.out) : w.heap.size ≤ gb2); have NE2 := Aside0.mk (Kd.R_ne n1_.out hbox (by decide)); have BK := Aside0.mk hbox; clear HB HO; have HB := n0_; have HO := n1_; clear n0_ n1_ hb hg; have hz0 : w7.cell? ⟨gb2, 0, none⟩ = some (.int .i64 0) := (blk_cell hbox 0).trans rfl; have hf0 := blk_frozen hbox 0; have hz1 : w7.cell? ⟨gb2, 1, none⟩ = some (.int .i64 0) := (blk_cell hbox 1).trans rfl; have hf1 := blk_frozen hbox 1; have hz2 : w7.cell? ⟨gb2, 2, none⟩ = some (.int .i64 0) := (blk_cell hbox 2).trans rfl; have hf2 := blk_frozen hbox 2; have hz3 : w7.cell? ⟨gb2, 3, none⟩ = some (.int .i64 0) := (blk_cell hbox 3).trans rfl; have hf3 := blk_frozen hbox 3; have hz4 : w7.cell? ⟨gb2, 4, none⟩ = some (.string ⟨#[]⟩) := (blk_cell hbox 4).trans rfl; have hf4 := blk_frozen hbox 4; have hz5 : w7.cell? ⟨gb2, 5, none⟩ = some (.int .i64 0) := (blk_cell hbox 5).trans rfl; have hf5 := blk_frozen hbox 5; clear hbox)
            | (go_at_call 47; (with_reducible refine (predResult_calls employee period ge gp pj _ (blk_far (blk_far (blk_far (blk_far (blk_far (blk_far (blk_below BCge.out HB.out) (show ge ≠ gb2 from Nat.ne_of_lt (Nat.lt_of_lt_of_le (blk_lt BCge.out) GE2.out)) _) (show ge ≠ gb2 from Nat.ne_of_lt (Nat.lt_of_lt_of_le (blk_lt BCge.out) GE2.out)) _) (show ge ≠ gb2 from Nat.ne_of_lt (Nat.lt_of_lt_of_le (blk_lt BCge.out) GE2.out)) _) (show ge ≠ gb2 from Nat.ne_of_lt (Nat.lt_of_lt_of_le (blk_lt BCge.out) GE2.out)) _) (show ge ≠ gb2 from Nat.ne_of_lt (Nat.lt_of_lt_of_le (blk_lt BCge.out) GE2.out)) _) (show ge ≠ gb2 from Nat.ne_of_lt (Nat.lt_of_lt_of_le (blk_lt BCge.out) GE2.out)) _) (blk_far (blk_far (blk_far (blk_far (blk_far (blk_far (blk_below BCgp.out HB.out) (show gp ≠ gb2 from Nat.ne_of_lt (Nat.lt_of_lt_of_le (blk_lt BCgp.out) GE2.out)) _) (show gp ≠ gb2 from Nat.ne_of_lt (Nat.lt_of_lt_of_le (blk_lt BCgp.out) GE2.out)) _) (show gp ≠ gb2 from Nat.ne_of_lt (Nat.lt_of_lt_of_le (blk_lt BCgp.out) GE2.out)) _) (show gp ≠ gb2 from Nat.ne_of_lt (Nat.lt_of_lt_of_le (blk_lt BCgp.out) GE2.out)) _) (show gp ≠ gb2 from Nat.ne_of_lt (Nat.lt_of_lt_of_le (blk_lt BCgp.out) GE2.out)) _) (show gp ≠ gb2 from Nat.ne_of_lt (Nat.lt_of_lt_of_le (blk_lt BCgp.out) GE2.out)) _)).mono ?_); rintro e w9 ⟨rfl, hb⟩; rw [HBV.out]; have n0_ := Aside0.mk (below_step (below_set (below_set (below_set (below_set (below_set (below_set HB.out GE2.out) GE2.out) GE2.out) GE2.out) GE2.out) GE2.out) hb); have n1_ := Aside0.mk (Kd.R_below (lineFlat.kept (lineFlat.kept (lineFlat.kept (lineFlat.kept (lineFlat.kept (lineFlat.kept HO.out (pset_grown _ ⟨gb2, 0, none⟩ _) (fun k hk e => NE2.out (e.symm.trans hk.symm))) (pset_grown _ ⟨gb2, 1, none⟩ _) (fun k hk e => NE2.out (e.symm.trans hk.symm))) (pset_grown _ ⟨gb2, 2, none⟩ _) (fun k hk e => NE2.out (e.symm.trans hk.symm))) (pset_grown _ ⟨gb2, 3, none⟩ _) (fun k hk e => NE2.out (e.symm.trans hk.symm))) (pset_grown _ ⟨gb2, 4, none⟩ _) (fun k hk e => NE2.out (e.symm.trans hk.symm))) (pset_grown _ ⟨gb2, 5, none⟩ _) (fun k hk e => NE2.out (e.symm.trans hk.symm))) hb); have n2_ : Aside0 (w9.heap[gb2]? = some (.cells #[.int .i64 pj.f0, .int .i64 pj.f1, .int .i64 pj.f2, .int .i64 pj.f3.f0, .string pj.f3.f1, .int .i64 pj.f3.f2] 58 (0, 0))) := Aside0.mk (blk_below (blk_put (blk_put (blk_put (blk_put (blk_put (blk_put BK.out 0 _ rfl) 1 _ rfl) 2 _ rfl) 3 _ rfl) 4 _ rfl) 5 _ rfl) hb); clear HB HO BK hz0 hf0 hz1 hf1 hz2 hf2 hz3 hf3 hz4 hf4 hz5 hf5; have HB := n0_; have HO := n1_; have hbox := n2_.out; clear n0_ n1_ n2_ hb; have hz0 : w9.cell? ⟨gb2, 0, none⟩ = some (.int .i64 pj.f0) := (blk_cell hbox 0).trans rfl; have hf0 := blk_frozen hbox 0; have hz1 : w9.cell? ⟨gb2, 1, none⟩ = some (.int .i64 pj.f1) := (blk_cell hbox 1).trans rfl; have hf1 := blk_frozen hbox 1; have hz2 : w9.cell? ⟨gb2, 2, none⟩ = some (.int .i64 pj.f2) := (blk_cell hbox 2).trans rfl; have hf2 := blk_frozen hbox 2; have hz3 : w9.cell? ⟨gb2, 3, none⟩ = some (.int .i64 pj.f3.f0) := (blk_cell hbox 3).trans rfl; have hf3 := blk_frozen hbox 3; have hz4 : w9.cell? ⟨gb2, 4, none⟩ = some (.string pj.f3.f1) := (blk_cell hbox 4).trans rfl; have hf4 := blk_frozen hbox 4; have hz5 : w9.cell? ⟨gb2, 5, none⟩ = some (.int .i64 pj.f3.f2) := (blk_cell hbox 5).trans rfl; have hf5 := blk_frozen hbox 5; clear hbox))
          go_roundw
          case rel =>
            have hx := HX.out
            have hy := HY.out
            have hl := HL.out
            refine ⟨x + 1, out, by first | rfl | (rw [show wrap64 (x + 1) = x + 1 by unfold wrap64; omega]), ⟨by omega, by omega⟩, ⟨?_⟩, ⟨by have := HOL.out; omega⟩, HO, HB⟩
            rw [hst.out, HE.out]
            simp [linesResult, HBV.out]
          case measure =>
            have hx := HX.out
            have hy := HY.out
            have hl := HL.out
            have e : wrap64 (x + 1) = x + 1 := by unfold wrap64; omega
            simp [intOf, e]; omega
      · have c7b0 : decide (x < (l0.length : Int)) = false := decide_eq_false c7
        have hxl : x.toNat = l0.length := by have := HX.out; omega
        have he := HE.out
        rw [hxl, List.take_length] at he
        obtain ⟨ml, hml⟩ : ∃ ml, ml = linesResult employee period l0 := ⟨_, rfl⟩
        rw [← hml] at he
        subst he
        have A2 := Aside0.mk (show payslip_Merge.f k out = some (m, t) by rw [hml]; exact A2_.out)
        clear hxl c7 HX HE A2_ hml HOL
        obtain ⟨Ao, co, eo⟩ := Kd.R_slice HO.out
        by_cases ht : t = 0
        · subst ht
          have H := H'.out
          rw [if_pos rfl] at H
          obtain rfl := Option.some.inj H
          cases eo
          go_wp2_with (first | ((with_reducible refine gate_callee (f := 59) rfl ?_); refine goesL_ (some 30) rfl rfl Try.func59 (by kernel_rfl) rfl #[.slice Ao out.length co] rfl (by (try simp only [List.map_toArray, List.map_cons, List.map_nil]); first | done | rfl) ?_; (with_reducible refine (payslip_Merge.calls k _ _ out m 0 _ ?side1 ?side2 A2.out).mono ?_); (case side1 => exact (Kd.R_reads' HO.out).2.2); (case side2 => exact (Kd.R_reads' HO.out).2.1); rintro e w8 ⟨v8, rfl, hR, hb⟩; refine ⟨_, rfl, ?_⟩; have HO2 := Aside0.mk (Kd.R_lower hR (below_size HB.out)); have n0_ := Aside0.mk (below_step HB.out hb); clear HB HO; have HB := n0_; clear n0_ hb hR))
          go_ret
          exact ⟨_, by first | rfl | (simp [*] <;> rfl), HO2.out, HB.out⟩
        · have H := H'.out
          rw [if_neg ht] at H
          obtain rfl := Option.some.inj H
          have ht0 : (t == 0) = false := beq_eq_false_iff_ne.mpr ht
          have ht1 : (t != 0) = true := bne_iff_ne.mpr ht
          clear ht H
          cases eo
          go_wp2_with (first | ((with_reducible refine gate_callee (f := 59) rfl ?_); refine goesL_ (some 30) rfl rfl Try.func59 (by kernel_rfl) rfl #[.slice Ao out.length co] rfl (by (try simp only [List.map_toArray, List.map_cons, List.map_nil]); first | done | rfl) ?_; (with_reducible refine (payslip_Merge.calls k _ _ out m t _ ?side1 ?side2 A2.out).mono ?_); (case side1 => exact (Kd.R_reads' HO.out).2.2); (case side2 => exact (Kd.R_reads' HO.out).2.1); rintro e w8 ⟨v8, rfl, hR, hb⟩; refine ⟨_, rfl, ?_⟩; have HO2 := Aside0.mk (Kd.R_lower hR (below_size HB.out)); have n0_ := Aside0.mk (below_step HB.out hb); clear HB HO; have HB := n0_; clear n0_ hb hR))
          go_ret
          exact ⟨_, by first | rfl | (simp [*] <;> rfl), Kd.R_nil _ _ _ _ _, HB.out⟩
set_option maxHeartbeats 8000000 in
set_option maxRecDepth 100000 in
theorem book_Result.calls (k : Nat) (A0 : Option Addr) (c0 : Nat) (l0 : List S58) (employee : Int) (period : Int) (r : List S56) (w : World) (hr0 : Kd.C k58 w A0 l0.length l0) (hc0 : l0.length ≤ c0) (h : book_Result.f k l0 employee period = some r) :
    Calls Try.prog 33 #[.slice A0 l0.length c0, .int .i64 employee, .int .i64 period] w fun e w' => ∃ v0_ : Value, e = .returned v0_ ∧ Kd.R k56 56 w' w.heap.size (fun _ => True) v0_ r ∧ Below w.heap.size w w' := by
  have HR0 := Aside0.mk hr0
  have HC0 := Aside0.mk hc0
  have A1 := Aside0.mk h
  clear hr0 hc0 h
  have HB := Aside0.mk (Below.refl w.heap.size w)
  go_enter Try.func33, Try.ntmps33
  go_wp2_with (first
    | ((with_reducible refine gate_dst (N := 4) rfl ?_); refine box_event ?hg (N := 4) ?hd (cs := #[.int .i64 employee]) (t := 3) ?hr ?_; (case hd => rfl); (case hg => rfl); (case hr => first | (go_simp; done) | (go_simp; rfl)); intro ge hg w7 hbox hb; have BCge := Aside0.mk hbox; have n0_ := Aside0.mk (below_step HB.out hb); clear HB; have HB := n0_; clear n0_ hb hbox hg)
    | ((with_reducible refine gate_dst (N := 5) rfl ?_); refine box_event ?hg (N := 5) ?hd (cs := #[.int .i64 period]) (t := 3) ?hr ?_; (case hd => rfl); (case hg => rfl); (case hr => first | (go_simp; done) | (go_simp; rfl)); intro gp hg w7 hbox hb; have mge_ := Aside0.mk (blk_below BCge.out hb); clear BCge; have BCge := mge_; clear mge_; have BCgp := Aside0.mk hbox; have n0_ := Aside0.mk (below_step HB.out hb); clear HB; have HB := n0_; clear n0_ hb hbox hg)
    | ((with_reducible refine gate_callee (f := 46) rfl ?_); refine goesL_ (some 9) rfl rfl Try.func46 (by kernel_rfl) rfl #[.slice A0 l0.length c0, .func (.func 47) #[] #[.pointer (some ⟨ge, 0, none⟩), .pointer (some ⟨gp, 0, none⟩)]] rfl (by (try simp only [List.map_toArray, List.map_cons, List.map_nil]); first | done | rfl) ?_; (with_reducible refine (mergedResult k _ _ l0 employee period ge gp r _ ?side1 ?side2 BCge.out BCgp.out A1.out).mono ?_); (case side1 => exact Kd.C_below HR0.out HB.out); (case side2 => exact HC0.out); rintro e w8 ⟨v8, rfl, hR, hb⟩; refine ⟨_, rfl, ?_⟩; have HO := Aside0.mk (Kd.R_lower hR (below_size HB.out)); have n0_ := Aside0.mk (below_step HB.out hb); clear HB; have HB := n0_; clear n0_ hb hR))
  go_ret
  exact ⟨_, by first | rfl | (simp [*] <;> rfl), HO.out, HB.out⟩
end ResultExt

end Go.Proofs.Ytdlljjglmcpniaa.Q
