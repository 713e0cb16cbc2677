-- Printed by wip/xprint.py over the translation, with contracts proved by hand among them. Lean checks it.
import Derived.Test.YtdmcffabkeodpaaQx0
import Derived.Test.YtdmcffabkeodpaaQx8
namespace Go.Proofs.Ytdmcffabkeodpaa.Q
open Go.RowKit Go.Proofs.YtdmcffabkeodpaaW.PrintWords Go.Proofs.YtdmcffabkeodpaaW.PrintLast Go.Proofs.YtdmcffabkeodpaaW.PrintMore
attribute [local go_sem] max2_int min2_int max_two min_two max_three min_three max_four min_four   -- for this text's walks alone
set_option linter.unusedVariables false
set_option linter.unusedSimpArgs false

/-! ### payrollref39_Combine: function 20 -/
mutual
def payrollref39_Combine.l0 : Nat → List (S29) → List (S29) → Int → Option ((List (S29)) × Int)
  | 0, _, _, _ => none
  | k + 1, x0, x6, x7 => if x7 < (x0.length : Int) then (payrollref39_Combine.l1 k x0 x6 x7 0) else (payrollref39_Combine.l3 k x6 0)
def payrollref39_Combine.j2 : Nat → List (S29) → List (S29) → Int → Int → Option ((List (S29)) × Int)
  | 0, _, _, _, _ => none
  | k + 1, x0, x6, x7, x8 => if x8 < (x6.length : Int) then (if 0 ≤ x8 then (if 0 ≤ x7 then (if x7 < (x0.length : Int) then (payrollref39_Combine.j3 k x0 x6 x7 x8 (((rd_T29 x6 x8).f0) == ((rd_T29 x0 x7).f0))) else (none)) else (none)) else (none)) else (payrollref39_Combine.j3 k x0 x6 x7 x8 false)
def payrollref39_Combine.j3 : Nat → List (S29) → List (S29) → Int → Int → Bool → Option ((List (S29)) × Int)
  | 0, _, _, _, _, _ => none
  | k + 1, x0, x6, x7, x8, x60 => if x60 = true then (if 0 ≤ x8 then (if x8 < (x6.length : Int) then (if 0 ≤ x7 then (if x7 < (x0.length : Int) then (payrollref39_Combine.l0 k x0 (x6.set (x8 : Int).toNat (⟨(rd_T29 x6 x8).f0, wrap64 (((rd_T29 x6 x8).f1) + ((rd_T29 x0 x7).f1))⟩ : S29)) (wrap64 (x7 + 1))) else (none)) else (none)) else (none)) else (none)) else (if x6.length < 8796093022208 then ((some (x6 ++ [(⟨0, 0⟩ : S29)] : List (S29))).bind fun y272 => (payrollref39_Combine.l2 k x0 y272 x7 x8 (wrap64 ((y272.length : Int) - 1)))) else (none))
def payrollref39_Combine.l2 : Nat → List (S29) → List (S29) → Int → Int → Int → Option ((List (S29)) × Int)
  | 0, _, _, _, _, _ => none
  | k + 1, x0, x6, x7, x8, x9 => if x9 > x8 then (if 0 ≤ (wrap64 (x9 - 1)) then (if (wrap64 (x9 - 1)) < (x6.length : Int) then (if 0 ≤ x9 then (if x9 < (x6.length : Int) then (payrollref39_Combine.l2 k x0 (x6.set (x9 : Int).toNat (⟨(rd_T29 x6 (wrap64 (x9 - 1))).f0, (rd_T29 x6 (wrap64 (x9 - 1))).f1⟩ : S29)) x7 x8 (wrap64 (x9 - 1))) else (none)) else (none)) else (none)) else (none)) else (if 0 ≤ x7 then (if x7 < (x0.length : Int) then (if 0 ≤ x8 then (if x8 < (x6.length : Int) then (payrollref39_Combine.l0 k x0 (x6.set (x8 : Int).toNat (⟨(rd_T29 x0 x7).f0, (rd_T29 x0 x7).f1⟩ : S29)) (wrap64 (x7 + 1))) else (none)) else (none)) else (none)) else (none))
def payrollref39_Combine.l1 : Nat → List (S29) → List (S29) → Int → Int → Option ((List (S29)) × Int)
  | 0, _, _, _, _ => none
  | k + 1, x0, x6, x7, x8 => if x8 < (x6.length : Int) then (if 0 ≤ x8 then (if 0 ≤ x7 then (if x7 < (x0.length : Int) then (if ((rd_T29 x6 x8).f0) < ((rd_T29 x0 x7).f0) then (payrollref39_Combine.l1 k x0 x6 x7 (wrap64 (x8 + 1))) else (payrollref39_Combine.j2 k x0 x6 x7 x8)) else (none)) else (none)) else (none)) else (payrollref39_Combine.j2 k x0 x6 x7 x8)
def payrollref39_Combine.l3 : Nat → List (S29) → Int → Option ((List (S29)) × Int)
  | 0, _, _ => none
  | k + 1, x6, x10 => if x10 < (x6.length : Int) then (if 0 ≤ x10 then (if ((rd_T29 x6 x10).f1) > 1000000000000 then (some (([] : List (S29)), 4)) else (payrollref39_Combine.l3 k x6 (wrap64 (x10 + 1)))) else (none)) else (some (x6, 0))
end
def payrollref39_Combine.f (k : Nat) (l0 : List (S29)) : Option ((List (S29)) × Int) := (payrollref39_Of.f k l0).bind fun bt260 => (if bt260.2.2.2 = 0 then (payrollref39_Combine.l0 k l0 ([] : List (S29)) 0) else (some (([] : List (S29)), bt260.2.2.2)))
theorem payrollref39_Combine.mono_l : ∀ k, (∀ y0 y1 y2, LeO (payrollref39_Combine.l0 k y0 y1 y2) (payrollref39_Combine.l0 (k + 1) y0 y1 y2)) ∧ (∀ y0 y1 y2 y3, LeO (payrollref39_Combine.j2 k y0 y1 y2 y3) (payrollref39_Combine.j2 (k + 1) y0 y1 y2 y3)) ∧ (∀ y0 y1 y2 y3 y4, LeO (payrollref39_Combine.j3 k y0 y1 y2 y3 y4) (payrollref39_Combine.j3 (k + 1) y0 y1 y2 y3 y4)) ∧ (∀ y0 y1 y2 y3 y4, LeO (payrollref39_Combine.l2 k y0 y1 y2 y3 y4) (payrollref39_Combine.l2 (k + 1) y0 y1 y2 y3 y4)) ∧ (∀ y0 y1 y2 y3, LeO (payrollref39_Combine.l1 k y0 y1 y2 y3) (payrollref39_Combine.l1 (k + 1) y0 y1 y2 y3)) ∧ (∀ y0 y1, LeO (payrollref39_Combine.l3 k y0 y1) (payrollref39_Combine.l3 (k + 1) y0 y1))
  | 0 => ⟨fun _ _ _ r h => by simp [payrollref39_Combine.l0] at h, fun _ _ _ _ r h => by simp [payrollref39_Combine.j2] at h, fun _ _ _ _ _ r h => by simp [payrollref39_Combine.j3] at h, fun _ _ _ _ _ r h => by simp [payrollref39_Combine.l2] at h, fun _ _ _ _ r h => by simp [payrollref39_Combine.l1] at h, fun _ _ r h => by simp [payrollref39_Combine.l3] at h⟩
  | k + 1 => by
    obtain ⟨ih0, ih1, ih2, ih3, ih4, ih5⟩ := payrollref39_Combine.mono_l k
    refine ⟨?_, ?_, ?_, ?_, ?_, ?_⟩
    · intro y0 y1 y2
      unfold payrollref39_Combine.l0
      repeat' first
      | (with_reducible exact ih0 _ _ _)
      | (with_reducible exact ih1 _ _ _ _)
      | (with_reducible exact ih2 _ _ _ _ _)
      | (with_reducible exact ih3 _ _ _ _ _)
      | (with_reducible exact ih4 _ _ _ _)
      | (with_reducible exact ih5 _ _)
      | (with_reducible exact payrollref39_Of.mono _ _)
      | (with_reducible exact LeO.refl _)
      | (with_reducible exact LeO.none _)
      | (with_reducible refine LeO.ite ?_ ?_)
      | (with_reducible refine LeO.bind ?_ (fun _ => ?_))
      | exact ih0 _ _ _
      | exact ih1 _ _ _ _
      | exact ih2 _ _ _ _ _
      | exact ih3 _ _ _ _ _
      | exact ih4 _ _ _ _
      | exact ih5 _ _
      | exact payrollref39_Of.mono _ _
      | exact LeO.none _
      | refine LeO.ite ?_ ?_
      | refine LeO.bind ?_ (fun _ => ?_)
    · intro y0 y1 y2 y3
      unfold payrollref39_Combine.j2
      repeat' first
      | (with_reducible exact ih0 _ _ _)
      | (with_reducible exact ih1 _ _ _ _)
      | (with_reducible exact ih2 _ _ _ _ _)
      | (with_reducible exact ih3 _ _ _ _ _)
      | (with_reducible exact ih4 _ _ _ _)
      | (with_reducible exact ih5 _ _)
      | (with_reducible exact payrollref39_Of.mono _ _)
      | (with_reducible exact LeO.refl _)
      | (with_reducible exact LeO.none _)
      | (with_reducible refine LeO.ite ?_ ?_)
      | (with_reducible refine LeO.bind ?_ (fun _ => ?_))
      | exact ih0 _ _ _
      | exact ih1 _ _ _ _
      | exact ih2 _ _ _ _ _
      | exact ih3 _ _ _ _ _
      | exact ih4 _ _ _ _
      | exact ih5 _ _
      | exact payrollref39_Of.mono _ _
      | exact LeO.none _
      | refine LeO.ite ?_ ?_
      | refine LeO.bind ?_ (fun _ => ?_)
    · intro y0 y1 y2 y3 y4
      unfold payrollref39_Combine.j3
      repeat' first
      | (with_reducible exact ih0 _ _ _)
      | (with_reducible exact ih1 _ _ _ _)
      | (with_reducible exact ih2 _ _ _ _ _)
      | (with_reducible exact ih3 _ _ _ _ _)
      | (with_reducible exact ih4 _ _ _ _)
      | (with_reducible exact ih5 _ _)
      | (with_reducible exact payrollref39_Of.mono _ _)
      | (with_reducible exact LeO.refl _)
      | (with_reducible exact LeO.none _)
      | (with_reducible refine LeO.ite ?_ ?_)
      | (with_reducible refine LeO.bind ?_ (fun _ => ?_))
      | exact ih0 _ _ _
      | exact ih1 _ _ _ _
      | exact ih2 _ _ _ _ _
      | exact ih3 _ _ _ _ _
      | exact ih4 _ _ _ _
      | exact ih5 _ _
      | exact payrollref39_Of.mono _ _
      | exact LeO.none _
      | refine LeO.ite ?_ ?_
      | refine LeO.bind ?_ (fun _ => ?_)
    · intro y0 y1 y2 y3 y4
      unfold payrollref39_Combine.l2
      repeat' first
      | (with_reducible exact ih0 _ _ _)
      | (with_reducible exact ih1 _ _ _ _)
      | (with_reducible exact ih2 _ _ _ _ _)
      | (with_reducible exact ih3 _ _ _ _ _)
      | (with_reducible exact ih4 _ _ _ _)
      | (with_reducible exact ih5 _ _)
      | (with_reducible exact payrollref39_Of.mono _ _)
      | (with_reducible exact LeO.refl _)
      | (with_reducible exact LeO.none _)
      | (with_reducible refine LeO.ite ?_ ?_)
      | (with_reducible refine LeO.bind ?_ (fun _ => ?_))
      | exact ih0 _ _ _
      | exact ih1 _ _ _ _
      | exact ih2 _ _ _ _ _
      | exact ih3 _ _ _ _ _
      | exact ih4 _ _ _ _
      | exact ih5 _ _
      | exact payrollref39_Of.mono _ _
      | exact LeO.none _
      | refine LeO.ite ?_ ?_
      | refine LeO.bind ?_ (fun _ => ?_)
    · intro y0 y1 y2 y3
      unfold payrollref39_Combine.l1
      repeat' first
      | (with_reducible exact ih0 _ _ _)
      | (with_reducible exact ih1 _ _ _ _)
      | (with_reducible exact ih2 _ _ _ _ _)
      | (with_reducible exact ih3 _ _ _ _ _)
      | (with_reducible exact ih4 _ _ _ _)
      | (with_reducible exact ih5 _ _)
      | (with_reducible exact payrollref39_Of.mono _ _)
      | (with_reducible exact LeO.refl _)
      | (with_reducible exact LeO.none _)
      | (with_reducible refine LeO.ite ?_ ?_)
      | (with_reducible refine LeO.bind ?_ (fun _ => ?_))
      | exact ih0 _ _ _
      | exact ih1 _ _ _ _
      | exact ih2 _ _ _ _ _
      | exact ih3 _ _ _ _ _
      | exact ih4 _ _ _ _
      | exact ih5 _ _
      | exact payrollref39_Of.mono _ _
      | exact LeO.none _
      | refine LeO.ite ?_ ?_
      | refine LeO.bind ?_ (fun _ => ?_)
    · intro y0 y1
      unfold payrollref39_Combine.l3
      repeat' first
      | (with_reducible exact ih0 _ _ _)
      | (with_reducible exact ih1 _ _ _ _)
      | (with_reducible exact ih2 _ _ _ _ _)
      | (with_reducible exact ih3 _ _ _ _ _)
      | (with_reducible exact ih4 _ _ _ _)
      | (with_reducible exact ih5 _ _)
      | (with_reducible exact payrollref39_Of.mono _ _)
      | (with_reducible exact LeO.refl _)
      | (with_reducible exact LeO.none _)
      | (with_reducible refine LeO.ite ?_ ?_)
      | (with_reducible refine LeO.bind ?_ (fun _ => ?_))
      | exact ih0 _ _ _
      | exact ih1 _ _ _ _
      | exact ih2 _ _ _ _ _
      | exact ih3 _ _ _ _ _
      | exact ih4 _ _ _ _
      | exact ih5 _ _
      | exact payrollref39_Of.mono _ _
      | exact LeO.none _
      | refine LeO.ite ?_ ?_
      | refine LeO.bind ?_ (fun _ => ?_)
theorem payrollref39_Combine.mono : ∀ a0 k, LeO (payrollref39_Combine.f k a0) (payrollref39_Combine.f (k + 1) a0) := by
  intro a0 k
  obtain ⟨ih0, ih1, ih2, ih3, ih4, ih5⟩ := payrollref39_Combine.mono_l k
  unfold payrollref39_Combine.f
  repeat' first
      | (with_reducible exact ih0 _ _ _)
      | (with_reducible exact ih1 _ _ _ _)
      | (with_reducible exact ih2 _ _ _ _ _)
      | (with_reducible exact ih3 _ _ _ _ _)
      | (with_reducible exact ih4 _ _ _ _)
      | (with_reducible exact ih5 _ _)
      | (with_reducible exact payrollref39_Of.mono _ _)
      | (with_reducible exact LeO.refl _)
      | (with_reducible exact LeO.none _)
      | (with_reducible refine LeO.ite ?_ ?_)
      | (with_reducible refine LeO.bind ?_ (fun _ => ?_))
      | exact ih0 _ _ _
      | exact ih1 _ _ _ _
      | exact ih2 _ _ _ _ _
      | exact ih3 _ _ _ _ _
      | exact ih4 _ _ _ _
      | exact ih5 _ _
      | exact payrollref39_Of.mono _ _
      | exact LeO.none _
      | refine LeO.ite ?_ ?_
      | refine LeO.bind ?_ (fun _ => ?_)
def payrollref39_Combine.T9 : Bool × List (List Nat × List Nat) := (true, [([], []), ([], []), ([1], [1]), ([0, 2], [0, 2]), ([3], [3]), ([4], [4]), ([4], [4]), ([5, 6, 4], [4, 5, 6]), ([7, 4], [4, 7]), ([8, 4], [4, 8]), ([4], [4]), ([4], [4]), ([10, 11, 4], [4, 10, 11]), ([12, 4], [4, 12]), ([13, 4], [4, 13]), ([9, 14, 4], [4, 9, 14]), ([4, 15], [4, 15])])
def payrollref39_Combine.B9 : List Nat := [0, 0, 2, 7, 15, 31, 31, 127, 255, 511, 31, 31, 3103, 7199, 15391, 32767, 65535]
theorem payrollref39_Combine.tab9 : rtab .any (opsOf Try.f20 9) = payrollref39_Combine.T9 := by kernel_rfl
theorem payrollref39_Combine.bits9 : waitsOk payrollref39_Combine.T9.2 payrollref39_Combine.B9 = true := by kernel_rfl
def payrollref39_Combine.T11 : Bool × List (List Nat × List Nat) := (true, [([], []), ([], []), ([1], [1]), ([0, 2], [0, 2]), ([3], [3]), ([4], [4]), ([4], [4]), ([5, 6, 4], [4, 5, 6]), ([7, 4], [4, 7]), ([8, 4], [4, 8]), ([4], [4]), ([4], [4]), ([10, 11, 4], [4, 10, 11]), ([12, 4], [4, 12]), ([13, 4], [4, 13]), ([9, 14, 4], [4, 9, 14]), ([4, 15], [4, 15])])
def payrollref39_Combine.B11 : List Nat := [0, 0, 2, 7, 15, 31, 31, 127, 255, 511, 31, 31, 3103, 7199, 15391, 32767, 65535]
theorem payrollref39_Combine.tab11 : rtab .any (opsOf Try.f20 11) = payrollref39_Combine.T11 := by kernel_rfl
theorem payrollref39_Combine.bits11 : waitsOk payrollref39_Combine.T11.2 payrollref39_Combine.B11 = true := by kernel_rfl
def payrollref39_Combine.T12 : Bool × List (List Nat × List Nat) := (true, [([], []), ([], []), ([0, 1], [0, 1]), ([2], [2]), ([3], [3]), ([], []), ([], []), ([5, 6], [5, 6]), ([7], [7]), ([8], [8]), ([4, 9], [4, 9]), ([0, 1, 0, 1, 2, 3, 4, 5, 6, 7, 8, 9, 10], [0, 1]), ([11, 0, 1, 2, 3, 4, 5, 6, 7, 8, 9, 10], [11]), ([12, 10, 0, 1, 2, 3, 4, 5, 6, 7, 8, 9, 10], [10, 12])])
def payrollref39_Combine.B12 : List Nat := [0, 0, 3, 7, 15, 0, 0, 96, 224, 480, 1023, 2047, 4095, 8191]
theorem payrollref39_Combine.tab12 : rtab .any (opsOf Try.f20 12) = payrollref39_Combine.T12 := by kernel_rfl
theorem payrollref39_Combine.bits12 : waitsOk payrollref39_Combine.T12.2 payrollref39_Combine.B12 = true := by kernel_rfl
set_option maxHeartbeats 8000000 in
set_option maxRecDepth 100000 in
theorem payrollref39_Combine.calls (k : Nat) (A0 : Option Addr) (c0 : Nat) (l0 : List (S29)) (r1 : List (S29)) (r2 : Int) (w : World) (hr0 : Kd.C k29 w A0 l0.length l0) (hc0 : l0.length ≤ c0) (h : payrollref39_Combine.f k l0 = some (r1, r2)) :
    Calls Try.prog 20 #[.slice A0 l0.length c0] w fun e w' => ∃ v0_ : Value, e = .returned (.tuple #[v0_, .int .i64 r2]) ∧ Kd.R k29 29 w' w.heap.size (fun _ => True) v0_ r1 ∧ Below w.heap.size w w' := by
  have hu34 := Try.underlying34
  have hu29 := Try.underlying29
  have HR0 := Aside0.mk hr0
  have HC0 := Aside0.mk hc0
  clear hr0 hc0
  have HB := Aside0.mk (Below.refl w.heap.size w)
  have H : ((payrollref39_Of.f k l0).bind fun bt260 => (if bt260.2.2.2 = 0 then (payrollref39_Combine.l0 k l0 ([] : List (S29)) 0) else (some (([] : List (S29)), bt260.2.2.2)))) = some (r1, r2) := h
  clear h
  replace H := Option.bind_eq_some_iff.mp H
  obtain ⟨⟨t260, t261, t262, t263⟩, A20, H⟩ := H
  replace H : (if t263 = 0 then (payrollref39_Combine.l0 k l0 ([] : List (S29)) 0) else (some (([] : List (S29)), t263))) = some (r1, r2) := H
  have A2 := Aside0.mk A20
  clear A20
  by_cases c3 : t263 = 0
  · rw [if_pos c3] at H
    have c3b0 : (t263 == 0) = true := beq_iff_eq.mpr c3
    have c3b1 : (t263 != 0) = false := bne_eq_false_iff_eq.mpr c3
    clear c3
    have H' := Aside0.mk H
    clear H
    go_enter Try.func20, Try.ntmps20
    go_wp2_with (first | ((with_reducible refine gate_callee (f := 24) rfl ?_); refine goesL_ (some 13) rfl rfl Try.func24 (by kernel_rfl) rfl #[.slice A0 l0.length c0] rfl (by (try simp only [List.map_toArray, List.map_cons, List.map_nil]); first | done | rfl | (simp only [List.length_drop, List.length_take]; rfl)) ?_; (with_reducible refine (payrollref39_Of.calls k _ _ l0 t260 t261 t262 t263 _ ?side1 ?side2 A2.out).mono ?_); (case side1 => repeat (first | exact HR0.out | (with_reducible refine Kd.C_alloc ?_ _) | (with_reducible refine Kd.C_drewN ?_ _) | (with_reducible refine Kd.C_drew ?_))); (case side2 => exact HC0.out); rintro e w4 ⟨rfl, hb⟩; refine ⟨_, rfl, ?_⟩; have n0_ := Aside0.mk (below_step (by repeat (first | (with_reducible first | exact HB.out | apply below_alloc | apply pw_below_drewN | apply below_drew1) | exact HB.out)) hb); clear HB; have HB := n0_; clear n0_; (try clear hb); (try clear hb2); (try clear hk); (try clear hi)) | ((with_reducible refine gate_dst (N := 4) rfl ?_); refine box_event ?hg (N := 4) ?hd (cs := #[.int .i64 0, .int .i64 0, .int .i64 0]) (t := 34) ?hr ?_; (case hd => rfl); (case hg => rfl); (case hr => first | (go_simp; done) | (go_simp; rfl)); intro gb264 hg w5 hbox hb; have n0_ := Aside0.mk (below_step (by repeat (first | (with_reducible first | exact HB.out | apply below_alloc | apply pw_below_drewN | apply below_drew1) | exact HB.out)) hb); have n1_ := Aside0.mk (hbox); have n2_ := Aside0.mk ((by rw [hg]; exact (below_size (by repeat (first | (with_reducible first | exact HB.out | apply below_alloc | apply pw_below_drewN | apply below_drew1) | exact HB.out))) : w.heap.size ≤ gb264)); have n3_ := Aside0.mk ((by rw [hg]; exact (below_size (by repeat (first | (with_reducible first | exact HB.out | apply below_alloc | apply pw_below_drewN | apply below_drew1) | exact HB.out))) : w.heap.size ≤ gb264)); clear HB; have HB := n0_; have BK264 := n1_; have GW264 := n2_; have GE264 := n3_; clear n0_ n1_ n2_ n3_; clear hb hbox hg; have hcz6_0 : w5.cell? ⟨gb264, 0, none⟩ = some (.int .i64 0) := (blk_cell BK264.out 0).trans rfl; have hcz6_1 : w5.cell? ⟨gb264, 1, none⟩ = some (.int .i64 0) := (blk_cell BK264.out 1).trans rfl; have hcz6_2 : w5.cell? ⟨gb264, 2, none⟩ = some (.int .i64 0) := (blk_cell BK264.out 2).trans rfl; have hfz6_0 := blk_frozen BK264.out 0; have hfz6_1 := blk_frozen BK264.out 1; have hfz6_2 := blk_frozen BK264.out 2))
    go_loopg [6, 7] k (fun kq v6 v7 w' => ∃ (x6_1 : List (S29)) (x7_1 : Int), v7 = .int .i64 x7_1 ∧ Aside0 (payrollref39_Combine.l0 kq l0 x6_1 x7_1 = some (r1, r2)) ∧ Aside0 (kq ≤ k) ∧ Aside0 (Kd.R k29 29 w' w.heap.size (fun _ => True) v6 x6_1) ∧ Aside0 (w'.heap[gb264]? = some (.cells #[.int .i64 t260, .int .i64 t261, .int .i64 t262] 34 (0, 0))) ∧ Aside0 (Below w.heap.size w w'))
    case atStart => exact ⟨(([] : List (S29))), (0), (by first | rfl | (simp; done) | (simp [*]; done)), H', ⟨Nat.le_refl _⟩, ⟨by first | exact Kd.R_nil _ _ _ _ _ | exact Kd.N_nil _ _ _ _ _ | exact Kd.V_nil _ _ _ _ _ | exact Kd.Q_nil _ _ _ _ _ | exact Kd.S_nil _ _ _ _ _⟩, ⟨by (with_reducible repeat (first | refine blk_drewN ?_ _ | refine blk_drew ?_ | refine blk_alloc ?_ _)); refine blk_put (cs := #[.int .i64 t260, .int .i64 t261, .int .i64 0]) ?_ 2 _ rfl; (with_reducible repeat (first | refine blk_drewN ?_ _ | refine blk_drew ?_ | refine blk_alloc ?_ _)); refine blk_put (cs := #[.int .i64 t260, .int .i64 0, .int .i64 0]) ?_ 1 _ rfl; (with_reducible repeat (first | refine blk_drewN ?_ _ | refine blk_drew ?_ | refine blk_alloc ?_ _)); refine blk_put (cs := #[.int .i64 0, .int .i64 0, .int .i64 0]) ?_ 0 _ rfl; (with_reducible repeat (first | refine blk_drewN ?_ _ | refine blk_drew ?_ | refine blk_alloc ?_ _)); exact BK264.out⟩, ⟨by repeat (first | (with_reducible first | exact HB.out | apply below_alloc | apply pw_below_drewN | apply below_drew1 | refine below_set ?_ GE264.out) | exact HB.out)⟩⟩
    case round =>
      clear H'
      try clear c2
      try clear p2
      try clear c3
      try clear c3b0
      try clear c3b1
      try clear hcz6_0
      try clear hcz6_1
      try clear hcz6_2
      try clear hfz6_0
      try clear hfz6_1
      try clear hfz6_2
      obtain ⟨x6_1, x7_1, rfl, HA, HK1, HO_6, BK264, HB⟩ := hrel
      cases gk with
      | zero => exact absurd HA.out (by simp [payrollref39_Combine.l0])
      | succ k1 =>
        have H := HA.out
        clear HA
        simp only [payrollref39_Combine.l0] at H
        by_cases c7 : x7_1 < (l0.length : Int)
        · rw [if_pos c7] at H
          have c7b0 : decide (x7_1 < (l0.length : Int)) = true := decide_eq_true c7
          clear c7
          have HC8 := Aside0.mk H
          clear H
          go_upto_block 2 with (fail)
          go_cut [8] (fun v8 wc => ∃ (kq : Nat) (x8_7 : Int), v8 = .int .i64 x8_7 ∧ Aside0 (payrollref39_Combine.j2 kq l0 x6_1 x7_1 x8_7 = some (r1, r2)) ∧ Aside0 (kq ≤ k1) ∧ Aside0 (Kd.R k29 29 wc w.heap.size (fun _ => True) u6 x6_1) ∧ Aside0 (wc.heap[gb264]? = some (.cells #[.int .i64 t260, .int .i64 t261, .int .i64 t262] 34 (0, 0))) ∧ Aside0 (Below w.heap.size w wc))
          case first =>
            have H := HC8.out
            clear HC8
            have H' := Aside0.mk H
            clear H
            go_wp2
            go_loopg [8] k1 (fun kq v8 w' => ∃ (x8_2 : Int), v8 = .int .i64 x8_2 ∧ Aside0 (payrollref39_Combine.l1 kq l0 x6_1 x7_1 x8_2 = some (r1, r2)) ∧ Aside0 (kq ≤ k1) ∧ Aside0 (Kd.R k29 29 w' w.heap.size (fun _ => True) u6 x6_1) ∧ Aside0 (w'.heap[gb264]? = some (.cells #[.int .i64 t260, .int .i64 t261, .int .i64 t262] 34 (0, 0))) ∧ Aside0 (Below w.heap.size w w'))
            case atStart => exact ⟨(0), (by first | rfl | (simp; done) | (simp [*]; done)), H', ⟨Nat.le_refl _⟩, ⟨by (with_reducible repeat (first | apply Kd.R_alloc | apply Kd.R_drewN | apply Kd.R_drew)); exact HO_6.out⟩, ⟨by (with_reducible repeat (first | refine blk_drewN ?_ _ | refine blk_drew ?_ | refine blk_alloc ?_ _)); exact BK264.out⟩, ⟨by repeat (first | (with_reducible first | exact HB.out | apply below_alloc | apply pw_below_drewN | apply below_drew1 | refine below_set ?_ GE264.out) | exact HB.out)⟩⟩
            case round =>
              clear H'
              try clear c2
              try clear p2
              try clear c3
              try clear c3b0
              try clear c3b1
              try clear c7
              try clear c7b0
              try clear hcz6_0
              try clear hcz6_1
              try clear hcz6_2
              try clear hfz6_0
              try clear hfz6_1
              try clear hfz6_2
              try clear p2
              obtain ⟨x8_2, rfl, HA, HK2, HO_6, BK264, HB⟩ := hrel
              cases gk with
              | zero => exact absurd HA.out (by simp [payrollref39_Combine.l1])
              | succ k2 =>
                have H := HA.out
                clear HA
                simp only [payrollref39_Combine.l1] at H
                by_cases c9 : x8_2 < (x6_1.length : Int)
                · rw [if_pos c9] at H
                  have c9b0 : decide (x8_2 < (x6_1.length : Int)) = true := decide_eq_true c9
                  clear c9
                  (first | rw [c9b0] | (simp only [i64_w, i32_w]; rw [c9b0]) | skip)
                  by_cases c10 : 0 ≤ x8_2
                  · rw [if_pos c10] at H
                    have c10b0 : decide (0 ≤ x8_2) = true := decide_eq_true c10
                    clear c10
                    by_cases c11 : 0 ≤ x7_1
                    · rw [if_pos c11] at H
                      have c11b0 : decide (0 ≤ x7_1) = true := decide_eq_true c11
                      clear c11
                      by_cases c12 : x7_1 < (l0.length : Int)
                      · rw [if_pos c12] at H
                        have c12b0 : decide (x7_1 < (l0.length : Int)) = true := decide_eq_true c12
                        clear c12
                        by_cases c13 : ((rd_T29 x6_1 x8_2).f0) < ((rd_T29 l0 x7_1).f0)
                        · rw [if_pos c13] at H
                          have c13b0 : decide (((rd_T29 x6_1 x8_2).f0) < ((rd_T29 l0 x7_1).f0)) = true := decide_eq_true c13
                          clear c13
                          have H' := Aside0.mk H
                          clear H
                          try go_wp2
                          have n0_ := Aside0.mk (Kd.R_drew HO_6.out)
                          have n1_ := Aside0.mk (blk_drew BK264.out)
                          have n2_ := Aside0.mk (below_drew1 HB.out)
                          clear HO_6
                          clear BK264
                          clear HB
                          have HO_6 := n0_
                          have BK264 := n1_
                          have HB := n2_
                          clear n0_ n1_ n2_
                          obtain ⟨Ao15, co15, eo15⟩ := Kd.R_slice HO_6.out
                          (first | subst eo15 | (injection eo15 with f1_ f2_ f3_; have f4_ := f1_.symm; have f5_ := f3_.symm; clear f1_ f2_ f3_; subst f4_; subst f5_))
                          have p265 : 0 ≤ (x8_2 : Int) := of_decide_eq_true (by first | (with_reducible assumption) | assumption)
                          have q265 : x8_2 < (x6_1.length : Int) := of_decide_eq_true (by first | (with_reducible assumption) | assumption)
                          obtain ⟨ad265, e265, hx265_0, hx265_1⟩ := at_T29 (Kd.R_reads' HO_6.out).2.2 x8_2 p265 q265
                          cases e265
                          replace p265 := eq_true p265
                          replace q265 := eq_true q265
                          have p266 : 0 ≤ (x7_1 : Int) := of_decide_eq_true (by first | (with_reducible assumption) | assumption)
                          have q266 : x7_1 < (l0.length : Int) := of_decide_eq_true (by first | (with_reducible assumption) | assumption)
                          obtain ⟨ad266, e266, hx266_0, hx266_1⟩ := at_T29 HR0.out x7_1 p266 q266
                          have hw266_1 := hx266_1
                          have hw266_0 := hx266_0
                          cases e266
                          replace hx266_0 := (HB.out.cell (World.block_lt_of_cell? w _ hx266_0)).trans hx266_0
                          replace hx266_1 := (HB.out.cell (World.block_lt_of_cell? w _ hx266_1)).trans hx266_1
                          replace p266 := eq_true p266
                          replace q266 := eq_true q266
                          refine start_ (n := 17) (S := fun w' => w'.cell? (ad265.add ((x8_2).toNat * 2)) = some (.int .i64 ((rd_T29 x6_1 x8_2).f0)) ∧ w'.cell? ⟨(ad265.add ((x8_2).toNat * 2)).block, (ad265.add ((x8_2).toNat * 2)).off + 1, none⟩ = some (.int .i64 ((rd_T29 x6_1 x8_2).f1)) ∧ w'.cell? (ad266.add ((x7_1).toNat * 2)) = some (.int .i64 ((rd_T29 l0 x7_1).f0)) ∧ w'.cell? ⟨(ad266.add ((x7_1).toNat * 2)).block, (ad266.add ((x7_1).toNat * 2)).off + 1, none⟩ = some (.int .i64 ((rd_T29 l0 x7_1).f1))) (ds := []) #[false, false, false, false, false, false, false, false, false, false, false, false, false, false, false, false, false] (by kernel_rfl) rfl rfl ⟨hx265_0, hx265_1, ((HB.out.cell (World.block_lt_of_cell? w _ hw266_0)).trans hw266_0), ((HB.out.cell (World.block_lt_of_cell? w _ hw266_1)).trans hw266_1)⟩ (fun hHeld => ?_); refine with_tabW payrollref39_Combine.tab9 payrollref39_Combine.bits9 (fun HT_ HW_ => ?_)
                          generalize wr.drew = w14 at HO_6 BK264 HB hx265_0 hx265_1 hx266_0 hx266_1 hHeld ⊢
                          refine pure_ (i := 0) (N := some 25) (v := ?_) (a' := ?_) #[true, false, false, false, false, false, false, false, false, false, false, false, false, false, false, false, false] rfl rfl (any_of HT_.out (by kernel_rfl)) (fun _ _ _ h => h) (Or.inl ⟨by rfl, ?_⟩) ?_ ?_
                          rotate_left
                          · intro w'
                            go_simp
                            with_reducible rfl
                          rotate_left
                          · simp only [Act.put, List.setIfInBounds_toArray, List.set_cons_zero, List.set_cons_succ, i64_w, i32_w]
                            rfl
                          refine pure_ (i := 1) (N := some 26) (v := ?_) (a' := ?_) #[true, true, false, false, false, false, false, false, false, false, false, false, false, false, false, false, false] rfl rfl (any_of HT_.out (by kernel_rfl)) (fun _ _ _ h => h) (Or.inl ⟨by rfl, ?_⟩) ?_ ?_
                          rotate_left
                          · intro w'
                            go_simp
                            with_reducible rfl
                          rotate_left
                          · simp only [Act.put, List.setIfInBounds_toArray, List.set_cons_zero, List.set_cons_succ, i64_w, i32_w]
                            rfl
                          refine pure_ (i := 2) (N := some 27) (v := ?_) (a' := ?_) #[true, true, true, false, false, false, false, false, false, false, false, false, false, false, false, false, false] rfl rfl (any_of HT_.out (by kernel_rfl)) (fun _ _ _ h => h) (Or.inl ⟨by rfl, ?_⟩) ?_ ?_
                          rotate_left
                          · intro w'
                            go_simp
                            with_reducible rfl
                          rotate_left
                          · simp only [Act.put, List.setIfInBounds_toArray, List.set_cons_zero, List.set_cons_succ, i64_w, i32_w]
                            rfl
                          refine pure_ (i := 3) (N := some 28) (v := ?_) (a' := ?_) #[true, true, true, true, false, false, false, false, false, false, false, false, false, false, false, false, false] rfl rfl (any_of HT_.out (by kernel_rfl)) (fun _ _ _ h => h) (Or.inl ⟨by rfl, ?_⟩) ?_ ?_
                          rotate_left
                          · intro w'
                            go_simp
                            with_reducible rfl
                          rotate_left
                          · simp only [Act.put, List.setIfInBounds_toArray, List.set_cons_zero, List.set_cons_succ, i64_w, i32_w]
                            rfl
                          refine pure_ (i := 4) (N := some 29) (v := ?_) (a' := ?_) #[true, true, true, true, true, false, false, false, false, false, false, false, false, false, false, false, false] rfl rfl (any_of HT_.out (by kernel_rfl)) (fun _ _ _ h => h) (Or.inl ⟨by rfl, ?_⟩) ?_ ?_
                          rotate_left
                          · intro w'
                            go_simp
                            with_reducible rfl
                          rotate_left
                          · simp only [Act.put, List.setIfInBounds_toArray, List.set_cons_zero, List.set_cons_succ, i64_w, i32_w]
                            rfl
                          refine pure_ (i := 5) (N := some 30) (v := ?_) (a' := ?_) #[true, true, true, true, true, true, false, false, false, false, false, false, false, false, false, false, false] rfl rfl (any_of HT_.out (by kernel_rfl)) (fun _ _ _ h => h) (Or.inl ⟨by rfl, ?_⟩) ?_ ?_
                          rotate_left
                          · intro w'
                            go_simp
                            with_reducible rfl
                          rotate_left
                          · simp only [Act.put, List.setIfInBounds_toArray, List.set_cons_zero, List.set_cons_succ, i64_w, i32_w]
                            rfl
                          refine pure_ (i := 6) (N := some 31) (v := ?_) (a' := ?_) #[true, true, true, true, true, true, true, false, false, false, false, false, false, false, false, false, false] rfl rfl (any_of HT_.out (by kernel_rfl)) (fun _ _ _ h => h) (Or.inl ⟨by rfl, ?_⟩) ?_ ?_
                          rotate_left
                          · intro w'
                            go_simp
                            with_reducible rfl
                          rotate_left
                          · simp only [Act.put, List.setIfInBounds_toArray, List.set_cons_zero, List.set_cons_succ, i64_w, i32_w]
                            rfl
                          refine pure_ (i := 7) (N := some 32) (v := ?_) (a' := ?_) #[true, true, true, true, true, true, true, true, false, false, false, false, false, false, false, false, false] rfl rfl (any_of HT_.out (by kernel_rfl)) (fun _ _ _ h => h) (Or.inl ⟨by rfl, ?_⟩) ?_ ?_
                          rotate_left
                          · intro w'
                            go_simp
                            with_reducible rfl
                          rotate_left
                          · simp only [Act.put, List.setIfInBounds_toArray, List.set_cons_zero, List.set_cons_succ, i64_w, i32_w]
                            rfl
                          refine pure_ (i := 8) (N := some 33) (v := ?_) (a' := ?_) #[true, true, true, true, true, true, true, true, true, false, false, false, false, false, false, false, false] rfl rfl (any_of HT_.out (by kernel_rfl)) (fun _ _ _ h => h) (Or.inl ⟨by rfl, ?_⟩) ?_ ?_
                          rotate_left
                          · intro w'
                            go_simp
                            with_reducible rfl
                          rotate_left
                          · simp only [Act.put, List.setIfInBounds_toArray, List.set_cons_zero, List.set_cons_succ, i64_w, i32_w]
                            rfl
                          refine pure_ (i := 10) (N := some 35) (v := ?_) (a' := ?_) #[true, true, true, true, true, true, true, true, true, false, true, false, false, false, false, false, false] rfl rfl (any_of HT_.out (by kernel_rfl)) (fun _ _ _ h => h) (Or.inl ⟨by rfl, ?_⟩) ?_ ?_
                          rotate_left
                          · intro w'
                            go_simp
                            with_reducible rfl
                          rotate_left
                          · simp only [Act.put, List.setIfInBounds_toArray, List.set_cons_zero, List.set_cons_succ, i64_w, i32_w]
                            rfl
                          refine pure_ (i := 11) (N := some 36) (v := ?_) (a' := ?_) #[true, true, true, true, true, true, true, true, true, false, true, true, false, false, false, false, false] rfl rfl (any_of HT_.out (by kernel_rfl)) (fun _ _ _ h => h) (Or.inl ⟨by rfl, ?_⟩) ?_ ?_
                          rotate_left
                          · intro w'
                            go_simp
                            with_reducible rfl
                          rotate_left
                          · simp only [Act.put, List.setIfInBounds_toArray, List.set_cons_zero, List.set_cons_succ, i64_w, i32_w]
                            rfl
                          refine pure_ (i := 12) (N := some 37) (v := ?_) (a' := ?_) #[true, true, true, true, true, true, true, true, true, false, true, true, true, false, false, false, false] rfl rfl (any_of HT_.out (by kernel_rfl)) (fun _ _ _ h => h) (Or.inl ⟨by rfl, ?_⟩) ?_ ?_
                          rotate_left
                          · intro w'
                            go_simp
                            with_reducible rfl
                          rotate_left
                          · simp only [Act.put, List.setIfInBounds_toArray, List.set_cons_zero, List.set_cons_succ, i64_w, i32_w]
                            rfl
                          refine pure_ (i := 13) (N := some 38) (v := ?_) (a' := ?_) #[true, true, true, true, true, true, true, true, true, false, true, true, true, true, false, false, false] rfl rfl (any_of HT_.out (by kernel_rfl)) (fun _ _ _ h => h) (Or.inl ⟨by rfl, ?_⟩) ?_ ?_
                          rotate_left
                          · intro w'
                            go_simp
                            with_reducible rfl
                          rotate_left
                          · simp only [Act.put, List.setIfInBounds_toArray, List.set_cons_zero, List.set_cons_succ, i64_w, i32_w]
                            rfl
                          refine take_ (i := 9) (N := some 34) (v := ?_) (a' := ?_) #[true, true, true, true, true, true, true, true, true, true, true, true, true, true, false, false, false] rfl rfl (take_ofW HT_.out HW_.out (by kernel_rfl)) (fun _ _ _ h => h) (Or.inl ⟨by rfl, ?_⟩) hHeld ?_ ?_
                          rotate_left
                          · rintro w' ⟨s0, s1, s2, s3⟩
                            go_simp
                            with_reducible rfl
                          rotate_left
                          · simp only [Act.put, List.setIfInBounds_toArray, List.set_cons_zero, List.set_cons_succ, i64_w, i32_w]
                            rfl
                          refine take_ (i := 14) (N := some 39) (v := ?_) (a' := ?_) #[true, true, true, true, true, true, true, true, true, true, true, true, true, true, true, false, false] rfl rfl (take_ofW HT_.out HW_.out (by kernel_rfl)) (fun _ _ _ h => h) (Or.inl ⟨by rfl, ?_⟩) hHeld ?_ ?_
                          rotate_left
                          · rintro w' ⟨s0, s1, s2, s3⟩
                            go_simp
                            with_reducible rfl
                          rotate_left
                          · simp only [Act.put, List.setIfInBounds_toArray, List.set_cons_zero, List.set_cons_succ, i64_w, i32_w]
                            rfl
                          refine pure_ (i := 15) (N := some 40) (v := ?_) (a' := ?_) #[true, true, true, true, true, true, true, true, true, true, true, true, true, true, true, true, false] rfl rfl (any_of HT_.out (by kernel_rfl)) (fun _ _ _ h => h) (Or.inl ⟨by rfl, ?_⟩) ?_ ?_
                          rotate_left
                          · intro w'
                            go_simp
                            with_reducible rfl
                          rotate_left
                          · simp only [Act.put, List.setIfInBounds_toArray, List.set_cons_zero, List.set_cons_succ, i64_w, i32_w]
                            rfl
                          refine pure_ (i := 16) (N := some 41) (v := ?_) (a' := ?_) #[true, true, true, true, true, true, true, true, true, true, true, true, true, true, true, true, true] rfl rfl (any_of HT_.out (by kernel_rfl)) (fun _ _ _ h => h) (Or.inl ⟨by rfl, ?_⟩) ?_ ?_
                          rotate_left
                          · intro w'
                            go_simp
                            with_reducible rfl
                          rotate_left
                          · simp only [Act.put, List.setIfInBounds_toArray, List.set_cons_zero, List.set_cons_succ, i64_w, i32_w]
                            rfl
                          refine done_ (done_of HT_.out (by kernel_rfl)) ?_
                          try go_wp2
                          go_roundg k2
                          case measure => have := HK1.out; have := HK2.out; omega
                          case rel => exact ⟨(wrap64 (x8_2 + 1)), (by first | rfl | (simp; done) | (simp [*]; done)), H', ⟨by have := HK1.out; have := HK2.out; omega⟩, ⟨by (with_reducible repeat (first | apply Kd.R_alloc | apply Kd.R_drewN | apply Kd.R_drew)); exact HO_6.out⟩, ⟨by (with_reducible repeat (first | refine blk_drewN ?_ _ | refine blk_drew ?_ | refine blk_alloc ?_ _)); exact BK264.out⟩, ⟨by repeat (first | (with_reducible first | exact HB.out | apply below_alloc | apply pw_below_drewN | apply below_drew1 | refine below_set ?_ GE264.out) | exact HB.out)⟩⟩
                        · rw [if_neg c13] at H
                          have c13b0 : decide (((rd_T29 x6_1 x8_2).f0) < ((rd_T29 l0 x7_1).f0)) = false := decide_eq_false c13
                          clear c13
                          have H' := Aside0.mk H
                          clear H
                          try go_wp2
                          have n0_ := Aside0.mk (Kd.R_drew HO_6.out)
                          have n1_ := Aside0.mk (blk_drew BK264.out)
                          have n2_ := Aside0.mk (below_drew1 HB.out)
                          clear HO_6
                          clear BK264
                          clear HB
                          have HO_6 := n0_
                          have BK264 := n1_
                          have HB := n2_
                          clear n0_ n1_ n2_
                          obtain ⟨Ao17, co17, eo17⟩ := Kd.R_slice HO_6.out
                          (first | subst eo17 | (injection eo17 with f1_ f2_ f3_; have f4_ := f1_.symm; have f5_ := f3_.symm; clear f1_ f2_ f3_; subst f4_; subst f5_))
                          have p265 : 0 ≤ (x8_2 : Int) := of_decide_eq_true (by first | (with_reducible assumption) | assumption)
                          have q265 : x8_2 < (x6_1.length : Int) := of_decide_eq_true (by first | (with_reducible assumption) | assumption)
                          obtain ⟨ad265, e265, hx265_0, hx265_1⟩ := at_T29 (Kd.R_reads' HO_6.out).2.2 x8_2 p265 q265
                          cases e265
                          replace p265 := eq_true p265
                          replace q265 := eq_true q265
                          have p266 : 0 ≤ (x7_1 : Int) := of_decide_eq_true (by first | (with_reducible assumption) | assumption)
                          have q266 : x7_1 < (l0.length : Int) := of_decide_eq_true (by first | (with_reducible assumption) | assumption)
                          obtain ⟨ad266, e266, hx266_0, hx266_1⟩ := at_T29 HR0.out x7_1 p266 q266
                          have hw266_1 := hx266_1
                          have hw266_0 := hx266_0
                          cases e266
                          replace hx266_0 := (HB.out.cell (World.block_lt_of_cell? w _ hx266_0)).trans hx266_0
                          replace hx266_1 := (HB.out.cell (World.block_lt_of_cell? w _ hx266_1)).trans hx266_1
                          replace p266 := eq_true p266
                          replace q266 := eq_true q266
                          refine start_ (n := 17) (S := fun w' => w'.cell? (ad265.add ((x8_2).toNat * 2)) = some (.int .i64 ((rd_T29 x6_1 x8_2).f0)) ∧ w'.cell? ⟨(ad265.add ((x8_2).toNat * 2)).block, (ad265.add ((x8_2).toNat * 2)).off + 1, none⟩ = some (.int .i64 ((rd_T29 x6_1 x8_2).f1)) ∧ w'.cell? (ad266.add ((x7_1).toNat * 2)) = some (.int .i64 ((rd_T29 l0 x7_1).f0)) ∧ w'.cell? ⟨(ad266.add ((x7_1).toNat * 2)).block, (ad266.add ((x7_1).toNat * 2)).off + 1, none⟩ = some (.int .i64 ((rd_T29 l0 x7_1).f1))) (ds := []) #[false, false, false, false, false, false, false, false, false, false, false, false, false, false, false, false, false] (by kernel_rfl) rfl rfl ⟨hx265_0, hx265_1, ((HB.out.cell (World.block_lt_of_cell? w _ hw266_0)).trans hw266_0), ((HB.out.cell (World.block_lt_of_cell? w _ hw266_1)).trans hw266_1)⟩ (fun hHeld => ?_); refine with_tabW payrollref39_Combine.tab9 payrollref39_Combine.bits9 (fun HT_ HW_ => ?_)
                          generalize wr.drew = w16 at HO_6 BK264 HB hx265_0 hx265_1 hx266_0 hx266_1 hHeld ⊢
                          refine pure_ (i := 0) (N := some 25) (v := ?_) (a' := ?_) #[true, false, false, false, false, false, false, false, false, false, false, false, false, false, false, false, false] rfl rfl (any_of HT_.out (by kernel_rfl)) (fun _ _ _ h => h) (Or.inl ⟨by rfl, ?_⟩) ?_ ?_
                          rotate_left
                          · intro w'
                            go_simp
                            with_reducible rfl
                          rotate_left
                          · simp only [Act.put, List.setIfInBounds_toArray, List.set_cons_zero, List.set_cons_succ, i64_w, i32_w]
                            rfl
                          refine pure_ (i := 1) (N := some 26) (v := ?_) (a' := ?_) #[true, true, false, false, false, false, false, false, false, false, false, false, false, false, false, false, false] rfl rfl (any_of HT_.out (by kernel_rfl)) (fun _ _ _ h => h) (Or.inl ⟨by rfl, ?_⟩) ?_ ?_
                          rotate_left
                          · intro w'
                            go_simp
                            with_reducible rfl
                          rotate_left
                          · simp only [Act.put, List.setIfInBounds_toArray, List.set_cons_zero, List.set_cons_succ, i64_w, i32_w]
                            rfl
                          refine pure_ (i := 2) (N := some 27) (v := ?_) (a' := ?_) #[true, true, true, false, false, false, false, false, false, false, false, false, false, false, false, false, false] rfl rfl (any_of HT_.out (by kernel_rfl)) (fun _ _ _ h => h) (Or.inl ⟨by rfl, ?_⟩) ?_ ?_
                          rotate_left
                          · intro w'
                            go_simp
                            with_reducible rfl
                          rotate_left
                          · simp only [Act.put, List.setIfInBounds_toArray, List.set_cons_zero, List.set_cons_succ, i64_w, i32_w]
                            rfl
                          refine pure_ (i := 3) (N := some 28) (v := ?_) (a' := ?_) #[true, true, true, true, false, false, false, false, false, false, false, false, false, false, false, false, false] rfl rfl (any_of HT_.out (by kernel_rfl)) (fun _ _ _ h => h) (Or.inl ⟨by rfl, ?_⟩) ?_ ?_
                          rotate_left
                          · intro w'
                            go_simp
                            with_reducible rfl
                          rotate_left
                          · simp only [Act.put, List.setIfInBounds_toArray, List.set_cons_zero, List.set_cons_succ, i64_w, i32_w]
                            rfl
                          refine pure_ (i := 4) (N := some 29) (v := ?_) (a' := ?_) #[true, true, true, true, true, false, false, false, false, false, false, false, false, false, false, false, false] rfl rfl (any_of HT_.out (by kernel_rfl)) (fun _ _ _ h => h) (Or.inl ⟨by rfl, ?_⟩) ?_ ?_
                          rotate_left
                          · intro w'
                            go_simp
                            with_reducible rfl
                          rotate_left
                          · simp only [Act.put, List.setIfInBounds_toArray, List.set_cons_zero, List.set_cons_succ, i64_w, i32_w]
                            rfl
                          refine pure_ (i := 5) (N := some 30) (v := ?_) (a' := ?_) #[true, true, true, true, true, true, false, false, false, false, false, false, false, false, false, false, false] rfl rfl (any_of HT_.out (by kernel_rfl)) (fun _ _ _ h => h) (Or.inl ⟨by rfl, ?_⟩) ?_ ?_
                          rotate_left
                          · intro w'
                            go_simp
                            with_reducible rfl
                          rotate_left
                          · simp only [Act.put, List.setIfInBounds_toArray, List.set_cons_zero, List.set_cons_succ, i64_w, i32_w]
                            rfl
                          refine pure_ (i := 6) (N := some 31) (v := ?_) (a' := ?_) #[true, true, true, true, true, true, true, false, false, false, false, false, false, false, false, false, false] rfl rfl (any_of HT_.out (by kernel_rfl)) (fun _ _ _ h => h) (Or.inl ⟨by rfl, ?_⟩) ?_ ?_
                          rotate_left
                          · intro w'
                            go_simp
                            with_reducible rfl
                          rotate_left
                          · simp only [Act.put, List.setIfInBounds_toArray, List.set_cons_zero, List.set_cons_succ, i64_w, i32_w]
                            rfl
                          refine pure_ (i := 7) (N := some 32) (v := ?_) (a' := ?_) #[true, true, true, true, true, true, true, true, false, false, false, false, false, false, false, false, false] rfl rfl (any_of HT_.out (by kernel_rfl)) (fun _ _ _ h => h) (Or.inl ⟨by rfl, ?_⟩) ?_ ?_
                          rotate_left
                          · intro w'
                            go_simp
                            with_reducible rfl
                          rotate_left
                          · simp only [Act.put, List.setIfInBounds_toArray, List.set_cons_zero, List.set_cons_succ, i64_w, i32_w]
                            rfl
                          refine pure_ (i := 8) (N := some 33) (v := ?_) (a' := ?_) #[true, true, true, true, true, true, true, true, true, false, false, false, false, false, false, false, false] rfl rfl (any_of HT_.out (by kernel_rfl)) (fun _ _ _ h => h) (Or.inl ⟨by rfl, ?_⟩) ?_ ?_
                          rotate_left
                          · intro w'
                            go_simp
                            with_reducible rfl
                          rotate_left
                          · simp only [Act.put, List.setIfInBounds_toArray, List.set_cons_zero, List.set_cons_succ, i64_w, i32_w]
                            rfl
                          refine pure_ (i := 10) (N := some 35) (v := ?_) (a' := ?_) #[true, true, true, true, true, true, true, true, true, false, true, false, false, false, false, false, false] rfl rfl (any_of HT_.out (by kernel_rfl)) (fun _ _ _ h => h) (Or.inl ⟨by rfl, ?_⟩) ?_ ?_
                          rotate_left
                          · intro w'
                            go_simp
                            with_reducible rfl
                          rotate_left
                          · simp only [Act.put, List.setIfInBounds_toArray, List.set_cons_zero, List.set_cons_succ, i64_w, i32_w]
                            rfl
                          refine pure_ (i := 11) (N := some 36) (v := ?_) (a' := ?_) #[true, true, true, true, true, true, true, true, true, false, true, true, false, false, false, false, false] rfl rfl (any_of HT_.out (by kernel_rfl)) (fun _ _ _ h => h) (Or.inl ⟨by rfl, ?_⟩) ?_ ?_
                          rotate_left
                          · intro w'
                            go_simp
                            with_reducible rfl
                          rotate_left
                          · simp only [Act.put, List.setIfInBounds_toArray, List.set_cons_zero, List.set_cons_succ, i64_w, i32_w]
                            rfl
                          refine pure_ (i := 12) (N := some 37) (v := ?_) (a' := ?_) #[true, true, true, true, true, true, true, true, true, false, true, true, true, false, false, false, false] rfl rfl (any_of HT_.out (by kernel_rfl)) (fun _ _ _ h => h) (Or.inl ⟨by rfl, ?_⟩) ?_ ?_
                          rotate_left
                          · intro w'
                            go_simp
                            with_reducible rfl
                          rotate_left
                          · simp only [Act.put, List.setIfInBounds_toArray, List.set_cons_zero, List.set_cons_succ, i64_w, i32_w]
                            rfl
                          refine pure_ (i := 13) (N := some 38) (v := ?_) (a' := ?_) #[true, true, true, true, true, true, true, true, true, false, true, true, true, true, false, false, false] rfl rfl (any_of HT_.out (by kernel_rfl)) (fun _ _ _ h => h) (Or.inl ⟨by rfl, ?_⟩) ?_ ?_
                          rotate_left
                          · intro w'
                            go_simp
                            with_reducible rfl
                          rotate_left
                          · simp only [Act.put, List.setIfInBounds_toArray, List.set_cons_zero, List.set_cons_succ, i64_w, i32_w]
                            rfl
                          refine take_ (i := 9) (N := some 34) (v := ?_) (a' := ?_) #[true, true, true, true, true, true, true, true, true, true, true, true, true, true, false, false, false] rfl rfl (take_ofW HT_.out HW_.out (by kernel_rfl)) (fun _ _ _ h => h) (Or.inl ⟨by rfl, ?_⟩) hHeld ?_ ?_
                          rotate_left
                          · rintro w' ⟨s0, s1, s2, s3⟩
                            go_simp
                            with_reducible rfl
                          rotate_left
                          · simp only [Act.put, List.setIfInBounds_toArray, List.set_cons_zero, List.set_cons_succ, i64_w, i32_w]
                            rfl
                          refine take_ (i := 14) (N := some 39) (v := ?_) (a' := ?_) #[true, true, true, true, true, true, true, true, true, true, true, true, true, true, true, false, false] rfl rfl (take_ofW HT_.out HW_.out (by kernel_rfl)) (fun _ _ _ h => h) (Or.inl ⟨by rfl, ?_⟩) hHeld ?_ ?_
                          rotate_left
                          · rintro w' ⟨s0, s1, s2, s3⟩
                            go_simp
                            with_reducible rfl
                          rotate_left
                          · simp only [Act.put, List.setIfInBounds_toArray, List.set_cons_zero, List.set_cons_succ, i64_w, i32_w]
                            rfl
                          refine pure_ (i := 15) (N := some 40) (v := ?_) (a' := ?_) #[true, true, true, true, true, true, true, true, true, true, true, true, true, true, true, true, false] rfl rfl (any_of HT_.out (by kernel_rfl)) (fun _ _ _ h => h) (Or.inl ⟨by rfl, ?_⟩) ?_ ?_
                          rotate_left
                          · intro w'
                            go_simp
                            with_reducible rfl
                          rotate_left
                          · simp only [Act.put, List.setIfInBounds_toArray, List.set_cons_zero, List.set_cons_succ, i64_w, i32_w]
                            rfl
                          refine pure_ (i := 16) (N := some 41) (v := ?_) (a' := ?_) #[true, true, true, true, true, true, true, true, true, true, true, true, true, true, true, true, true] rfl rfl (any_of HT_.out (by kernel_rfl)) (fun _ _ _ h => h) (Or.inl ⟨by rfl, ?_⟩) ?_ ?_
                          rotate_left
                          · intro w'
                            go_simp
                            with_reducible rfl
                          rotate_left
                          · simp only [Act.put, List.setIfInBounds_toArray, List.set_cons_zero, List.set_cons_succ, i64_w, i32_w]
                            rfl
                          refine done_ (done_of HT_.out (by kernel_rfl)) ?_
                          try go_wp2
                          go_meet
                          case rel => exact ⟨_, (x8_2), (by first | rfl | (simp; done) | (simp [*]; done)), H', ⟨by have := HK1.out; have := HK2.out; first | omega | exact Nat.le_refl _⟩, ⟨by (with_reducible repeat (first | apply Kd.R_alloc | apply Kd.R_drewN | apply Kd.R_drew)); exact HO_6.out⟩, ⟨by (with_reducible repeat (first | refine blk_drewN ?_ _ | refine blk_drew ?_ | refine blk_alloc ?_ _)); exact BK264.out⟩, ⟨by repeat (first | (with_reducible first | exact HB.out | apply below_alloc | apply pw_below_drewN | apply below_drew1 | refine below_set ?_ GE264.out) | exact HB.out)⟩⟩
                      · rw [if_neg c12] at H
                        exact absurd H (by simp)
                    · rw [if_neg c11] at H
                      exact absurd H (by simp)
                  · rw [if_neg c10] at H
                    exact absurd H (by simp)
                · rw [if_neg c9] at H
                  have c9b0 : decide (x8_2 < (x6_1.length : Int)) = false := decide_eq_false c9
                  clear c9
                  (first | rw [c9b0] | (simp only [i64_w, i32_w]; rw [c9b0]) | skip)
                  have H' := Aside0.mk H
                  clear H
                  try go_wp2
                  have n0_ := Aside0.mk (Kd.R_drew HO_6.out)
                  have n1_ := Aside0.mk (blk_drew BK264.out)
                  have n2_ := Aside0.mk (below_drew1 HB.out)
                  clear HO_6
                  clear BK264
                  clear HB
                  have HO_6 := n0_
                  have BK264 := n1_
                  have HB := n2_
                  clear n0_ n1_ n2_
                  obtain ⟨Ao19, co19, eo19⟩ := Kd.R_slice HO_6.out
                  (first | subst eo19 | (injection eo19 with f1_ f2_ f3_; have f4_ := f1_.symm; have f5_ := f3_.symm; clear f1_ f2_ f3_; subst f4_; subst f5_))
                  refine start_ (n := 17) (S := fun w' => True) (ds := []) #[false, false, false, false, false, false, false, false, false, false, false, false, false, false, false, false, false] (by kernel_rfl) rfl rfl trivial (fun hHeld => ?_); refine with_tabW payrollref39_Combine.tab9 payrollref39_Combine.bits9 (fun HT_ HW_ => ?_)
                  generalize wr.drew = w18 at HO_6 BK264 HB hHeld ⊢
                  refine pure_ (i := 0) (N := some 25) (v := ?_) (a' := ?_) #[true, false, false, false, false, false, false, false, false, false, false, false, false, false, false, false, false] rfl rfl (any_of HT_.out (by kernel_rfl)) (fun _ _ _ h => h) (Or.inl ⟨by rfl, ?_⟩) ?_ ?_
                  rotate_left
                  · intro w'
                    go_simp
                    with_reducible rfl
                  rotate_left
                  · simp only [Act.put, List.setIfInBounds_toArray, List.set_cons_zero, List.set_cons_succ, i64_w, i32_w]
                    rfl
                  refine pure_ (i := 1) (N := some 26) (v := ?_) (a' := ?_) #[true, true, false, false, false, false, false, false, false, false, false, false, false, false, false, false, false] rfl rfl (any_of HT_.out (by kernel_rfl)) (fun _ _ _ h => h) (Or.inl ⟨by rfl, ?_⟩) ?_ ?_
                  rotate_left
                  · intro w'
                    go_simp
                    with_reducible rfl
                  rotate_left
                  · simp only [Act.put, List.setIfInBounds_toArray, List.set_cons_zero, List.set_cons_succ, i64_w, i32_w]
                    rfl
                  refine pure_ (i := 2) (N := some 27) (v := ?_) (a' := ?_) #[true, true, true, false, false, false, false, false, false, false, false, false, false, false, false, false, false] rfl rfl (any_of HT_.out (by kernel_rfl)) (fun _ _ _ h => h) (Or.inl ⟨by rfl, ?_⟩) ?_ ?_
                  rotate_left
                  · intro w'
                    go_simp
                    with_reducible rfl
                  rotate_left
                  · simp only [Act.put, List.setIfInBounds_toArray, List.set_cons_zero, List.set_cons_succ, i64_w, i32_w]
                    rfl
                  refine pure_ (i := 3) (N := some 28) (v := ?_) (a' := ?_) #[true, true, true, true, false, false, false, false, false, false, false, false, false, false, false, false, false] rfl rfl (any_of HT_.out (by kernel_rfl)) (fun _ _ _ h => h) (Or.inl ⟨by rfl, ?_⟩) ?_ ?_
                  rotate_left
                  · intro w'
                    go_simp
                    with_reducible rfl
                  rotate_left
                  · simp only [Act.put, List.setIfInBounds_toArray, List.set_cons_zero, List.set_cons_succ, i64_w, i32_w]
                    rfl
                  refine pure_ (i := 4) (N := some 29) (v := ?_) (a' := ?_) #[true, true, true, true, true, false, false, false, false, false, false, false, false, false, false, false, false] rfl rfl (any_of HT_.out (by kernel_rfl)) (fun _ _ _ h => h) (Or.inl ⟨by rfl, ?_⟩) ?_ ?_
                  rotate_left
                  · intro w'
                    go_simp
                    with_reducible rfl
                  rotate_left
                  · simp only [Act.put, List.setIfInBounds_toArray, List.set_cons_zero, List.set_cons_succ, i64_w, i32_w]
                    rfl
                  refine pure_ (i := 5) (N := some 30) (v := undef) (a' := ?_) #[true, true, true, true, true, true, false, false, false, false, false, false, false, false, false, false, false] rfl rfl (any_of HT_.out (by kernel_rfl)) (fun _ _ _ h => h) (Or.inr ⟨by rfl, rfl⟩) ?_ ?_
                  rotate_left
                  · simp only [Act.put, List.setIfInBounds_toArray, List.set_cons_zero, List.set_cons_succ, i64_w, i32_w]
                    rfl
                  refine pure_ (i := 6) (N := some 31) (v := undef) (a' := ?_) #[true, true, true, true, true, true, true, false, false, false, false, false, false, false, false, false, false] rfl rfl (any_of HT_.out (by kernel_rfl)) (fun _ _ _ h => h) (Or.inr ⟨by rfl, rfl⟩) ?_ ?_
                  rotate_left
                  · simp only [Act.put, List.setIfInBounds_toArray, List.set_cons_zero, List.set_cons_succ, i64_w, i32_w]
                    rfl
                  refine pure_ (i := 7) (N := some 32) (v := undef) (a' := ?_) #[true, true, true, true, true, true, true, true, false, false, false, false, false, false, false, false, false] rfl rfl (any_of HT_.out (by kernel_rfl)) (fun _ _ _ h => h) (Or.inr ⟨by rfl, rfl⟩) ?_ ?_
                  rotate_left
                  · simp only [Act.put, List.setIfInBounds_toArray, List.set_cons_zero, List.set_cons_succ, i64_w, i32_w]
                    rfl
                  refine pure_ (i := 8) (N := some 33) (v := undef) (a' := ?_) #[true, true, true, true, true, true, true, true, true, false, false, false, false, false, false, false, false] rfl rfl (any_of HT_.out (by kernel_rfl)) (fun _ _ _ h => h) (Or.inr ⟨by rfl, rfl⟩) ?_ ?_
                  rotate_left
                  · simp only [Act.put, List.setIfInBounds_toArray, List.set_cons_zero, List.set_cons_succ, i64_w, i32_w]
                    rfl
                  refine pure_ (i := 9) (N := some 34) (v := undef) (a' := ?_) #[true, true, true, true, true, true, true, true, true, true, false, false, false, false, false, false, false] rfl rfl (any_of HT_.out (by kernel_rfl)) (fun _ _ _ h => h) (Or.inr ⟨by rfl, rfl⟩) ?_ ?_
                  rotate_left
                  · simp only [Act.put, List.setIfInBounds_toArray, List.set_cons_zero, List.set_cons_succ, i64_w, i32_w]
                    rfl
                  refine pure_ (i := 10) (N := some 35) (v := undef) (a' := ?_) #[true, true, true, true, true, true, true, true, true, true, true, false, false, false, false, false, false] rfl rfl (any_of HT_.out (by kernel_rfl)) (fun _ _ _ h => h) (Or.inr ⟨by rfl, rfl⟩) ?_ ?_
                  rotate_left
                  · simp only [Act.put, List.setIfInBounds_toArray, List.set_cons_zero, List.set_cons_succ, i64_w, i32_w]
                    rfl
                  refine pure_ (i := 11) (N := some 36) (v := undef) (a' := ?_) #[true, true, true, true, true, true, true, true, true, true, true, true, false, false, false, false, false] rfl rfl (any_of HT_.out (by kernel_rfl)) (fun _ _ _ h => h) (Or.inr ⟨by rfl, rfl⟩) ?_ ?_
                  rotate_left
                  · simp only [Act.put, List.setIfInBounds_toArray, List.set_cons_zero, List.set_cons_succ, i64_w, i32_w]
                    rfl
                  refine pure_ (i := 12) (N := some 37) (v := undef) (a' := ?_) #[true, true, true, true, true, true, true, true, true, true, true, true, true, false, false, false, false] rfl rfl (any_of HT_.out (by kernel_rfl)) (fun _ _ _ h => h) (Or.inr ⟨by rfl, rfl⟩) ?_ ?_
                  rotate_left
                  · simp only [Act.put, List.setIfInBounds_toArray, List.set_cons_zero, List.set_cons_succ, i64_w, i32_w]
                    rfl
                  refine pure_ (i := 13) (N := some 38) (v := undef) (a' := ?_) #[true, true, true, true, true, true, true, true, true, true, true, true, true, true, false, false, false] rfl rfl (any_of HT_.out (by kernel_rfl)) (fun _ _ _ h => h) (Or.inr ⟨by rfl, rfl⟩) ?_ ?_
                  rotate_left
                  · simp only [Act.put, List.setIfInBounds_toArray, List.set_cons_zero, List.set_cons_succ, i64_w, i32_w]
                    rfl
                  refine pure_ (i := 14) (N := some 39) (v := undef) (a' := ?_) #[true, true, true, true, true, true, true, true, true, true, true, true, true, true, true, false, false] rfl rfl (any_of HT_.out (by kernel_rfl)) (fun _ _ _ h => h) (Or.inr ⟨by rfl, rfl⟩) ?_ ?_
                  rotate_left
                  · simp only [Act.put, List.setIfInBounds_toArray, List.set_cons_zero, List.set_cons_succ, i64_w, i32_w]
                    rfl
                  refine pure_ (i := 15) (N := some 40) (v := undef) (a' := ?_) #[true, true, true, true, true, true, true, true, true, true, true, true, true, true, true, true, false] rfl rfl (any_of HT_.out (by kernel_rfl)) (fun _ _ _ h => h) (Or.inr ⟨by rfl, rfl⟩) ?_ ?_
                  rotate_left
                  · simp only [Act.put, List.setIfInBounds_toArray, List.set_cons_zero, List.set_cons_succ, i64_w, i32_w]
                    rfl
                  refine pure_ (i := 16) (N := some 41) (v := ?_) (a' := ?_) #[true, true, true, true, true, true, true, true, true, true, true, true, true, true, true, true, true] rfl rfl (any_of HT_.out (by kernel_rfl)) (fun _ _ _ h => h) (Or.inl ⟨by rfl, ?_⟩) ?_ ?_
                  rotate_left
                  · intro w'
                    go_simp
                    with_reducible rfl
                  rotate_left
                  · simp only [Act.put, List.setIfInBounds_toArray, List.set_cons_zero, List.set_cons_succ, i64_w, i32_w]
                    rfl
                  refine done_ (done_of HT_.out (by kernel_rfl)) ?_
                  try go_wp2
                  go_meet
                  case rel => exact ⟨_, (x8_2), (by first | rfl | (simp; done) | (simp [*]; done)), H', ⟨by have := HK1.out; have := HK2.out; first | omega | exact Nat.le_refl _⟩, ⟨by (with_reducible repeat (first | apply Kd.R_alloc | apply Kd.R_drewN | apply Kd.R_drew)); exact HO_6.out⟩, ⟨by (with_reducible repeat (first | refine blk_drewN ?_ _ | refine blk_drew ?_ | refine blk_alloc ?_ _)); exact BK264.out⟩, ⟨by repeat (first | (with_reducible first | exact HB.out | apply below_alloc | apply pw_below_drewN | apply below_drew1 | refine below_set ?_ GE264.out) | exact HB.out)⟩⟩
          case rest =>
            clear HC8
            try clear c1
            try clear c2
            try clear p2
            try clear q2
            try clear hx2
            try clear c3
            try clear c3b0
            try clear c3b1
            try clear p6
            try clear c7
            try clear c7b0
            try clear c9
            try clear c9b0
            try clear c10
            try clear c10b0
            try clear c11
            try clear c11b0
            try clear c12
            try clear c12b0
            try clear c13
            try clear c13b0
            try clear hcz6_0
            try clear hcz6_1
            try clear hcz6_2
            try clear hfz6_0
            try clear hfz6_1
            try clear hfz6_2
            try clear hx265_0
            try clear hx265_1
            try clear hx266_0
            try clear hx266_1
            try clear p2
            try clear p265
            try clear p266
            try clear q265
            try clear q266
            obtain ⟨kq, x8_7, rfl, HA, HJ7, HO_6, BK264, HB⟩ := hcut
            cases kq with
            | zero => exact absurd HA.out (by simp [payrollref39_Combine.j2])
            | succ kj7 =>
              have H := HA.out
              clear HA
              simp only [payrollref39_Combine.j2] at H
              have HC20 := Aside0.mk H
              clear H
              go_upto_region 11 with (fail)
              go_cut [60] (fun v60 wc => ∃ (kq : Nat) (x60_19 : Bool), v60 = .bool x60_19 ∧ Aside0 (payrollref39_Combine.j3 kq l0 x6_1 x7_1 x8_7 x60_19 = some (r1, r2)) ∧ Aside0 (kq ≤ kj7) ∧ Aside0 (Kd.R k29 29 wc w.heap.size (fun _ => True) u6 x6_1) ∧ Aside0 (wc.heap[gb264]? = some (.cells #[.int .i64 t260, .int .i64 t261, .int .i64 t262] 34 (0, 0))) ∧ Aside0 (Below w.heap.size w wc))
              case first =>
                have H := HC20.out
                clear HC20
                by_cases c21 : x8_7 < (x6_1.length : Int)
                · rw [if_pos c21] at H
                  have c21b0 : decide (x8_7 < (x6_1.length : Int)) = true := decide_eq_true c21
                  clear c21
                  (first | rw [c21b0] | (simp only [i64_w, i32_w]; rw [c21b0]) | skip)
                  by_cases c22 : 0 ≤ x8_7
                  · rw [if_pos c22] at H
                    have c22b0 : decide (0 ≤ x8_7) = true := decide_eq_true c22
                    clear c22
                    by_cases c23 : 0 ≤ x7_1
                    · rw [if_pos c23] at H
                      have c23b0 : decide (0 ≤ x7_1) = true := decide_eq_true c23
                      clear c23
                      by_cases c24 : x7_1 < (l0.length : Int)
                      · rw [if_pos c24] at H
                        have c24b0 : decide (x7_1 < (l0.length : Int)) = true := decide_eq_true c24
                        clear c24
                        have H' := Aside0.mk H
                        clear H
                        try go_wp2
                        have n0_ := Aside0.mk (Kd.R_drew HO_6.out)
                        have n1_ := Aside0.mk (blk_drew BK264.out)
                        have n2_ := Aside0.mk (below_drew1 HB.out)
                        clear HO_6
                        clear BK264
                        clear HB
                        have HO_6 := n0_
                        have BK264 := n1_
                        have HB := n2_
                        clear n0_ n1_ n2_
                        obtain ⟨Ao26, co26, eo26⟩ := Kd.R_slice HO_6.out
                        (first | subst eo26 | (injection eo26 with f1_ f2_ f3_; have f4_ := f1_.symm; have f5_ := f3_.symm; clear f1_ f2_ f3_; subst f4_; subst f5_))
                        have p267 : 0 ≤ (x8_7 : Int) := of_decide_eq_true (by first | (with_reducible assumption) | assumption)
                        have q267 : x8_7 < (x6_1.length : Int) := of_decide_eq_true (by first | (with_reducible assumption) | assumption)
                        obtain ⟨ad267, e267, hx267_0, hx267_1⟩ := at_T29 (Kd.R_reads' HO_6.out).2.2 x8_7 p267 q267
                        cases e267
                        replace p267 := eq_true p267
                        replace q267 := eq_true q267
                        have p268 : 0 ≤ (x7_1 : Int) := of_decide_eq_true (by first | (with_reducible assumption) | assumption)
                        have q268 : x7_1 < (l0.length : Int) := of_decide_eq_true (by first | (with_reducible assumption) | assumption)
                        obtain ⟨ad268, e268, hx268_0, hx268_1⟩ := at_T29 HR0.out x7_1 p268 q268
                        have hw268_1 := hx268_1
                        have hw268_0 := hx268_0
                        cases e268
                        replace hx268_0 := (HB.out.cell (World.block_lt_of_cell? w _ hx268_0)).trans hx268_0
                        replace hx268_1 := (HB.out.cell (World.block_lt_of_cell? w _ hx268_1)).trans hx268_1
                        replace p268 := eq_true p268
                        replace q268 := eq_true q268
                        refine start_ (n := 17) (S := fun w' => w'.cell? (ad267.add ((x8_7).toNat * 2)) = some (.int .i64 ((rd_T29 x6_1 x8_7).f0)) ∧ w'.cell? ⟨(ad267.add ((x8_7).toNat * 2)).block, (ad267.add ((x8_7).toNat * 2)).off + 1, none⟩ = some (.int .i64 ((rd_T29 x6_1 x8_7).f1)) ∧ w'.cell? (ad268.add ((x7_1).toNat * 2)) = some (.int .i64 ((rd_T29 l0 x7_1).f0)) ∧ w'.cell? ⟨(ad268.add ((x7_1).toNat * 2)).block, (ad268.add ((x7_1).toNat * 2)).off + 1, none⟩ = some (.int .i64 ((rd_T29 l0 x7_1).f1))) (ds := []) #[false, false, false, false, false, false, false, false, false, false, false, false, false, false, false, false, false] (by kernel_rfl) rfl rfl ⟨hx267_0, hx267_1, ((HB.out.cell (World.block_lt_of_cell? w _ hw268_0)).trans hw268_0), ((HB.out.cell (World.block_lt_of_cell? w _ hw268_1)).trans hw268_1)⟩ (fun hHeld => ?_); refine with_tabW payrollref39_Combine.tab11 payrollref39_Combine.bits11 (fun HT_ HW_ => ?_)
                        generalize wc.drew = w25 at HO_6 BK264 HB hx267_0 hx267_1 hx268_0 hx268_1 hHeld ⊢
                        refine pure_ (i := 0) (N := some 44) (v := ?_) (a' := ?_) #[true, false, false, false, false, false, false, false, false, false, false, false, false, false, false, false, false] rfl rfl (any_of HT_.out (by kernel_rfl)) (fun _ _ _ h => h) (Or.inl ⟨by rfl, ?_⟩) ?_ ?_
                        rotate_left
                        · intro w'
                          go_simp
                          with_reducible rfl
                        rotate_left
                        · simp only [Act.put, List.setIfInBounds_toArray, List.set_cons_zero, List.set_cons_succ, i64_w, i32_w]
                          rfl
                        refine pure_ (i := 1) (N := some 45) (v := ?_) (a' := ?_) #[true, true, false, false, false, false, false, false, false, false, false, false, false, false, false, false, false] rfl rfl (any_of HT_.out (by kernel_rfl)) (fun _ _ _ h => h) (Or.inl ⟨by rfl, ?_⟩) ?_ ?_
                        rotate_left
                        · intro w'
                          go_simp
                          with_reducible rfl
                        rotate_left
                        · simp only [Act.put, List.setIfInBounds_toArray, List.set_cons_zero, List.set_cons_succ, i64_w, i32_w]
                          rfl
                        refine pure_ (i := 2) (N := some 46) (v := ?_) (a' := ?_) #[true, true, true, false, false, false, false, false, false, false, false, false, false, false, false, false, false] rfl rfl (any_of HT_.out (by kernel_rfl)) (fun _ _ _ h => h) (Or.inl ⟨by rfl, ?_⟩) ?_ ?_
                        rotate_left
                        · intro w'
                          go_simp
                          with_reducible rfl
                        rotate_left
                        · simp only [Act.put, List.setIfInBounds_toArray, List.set_cons_zero, List.set_cons_succ, i64_w, i32_w]
                          rfl
                        refine pure_ (i := 3) (N := some 47) (v := ?_) (a' := ?_) #[true, true, true, true, false, false, false, false, false, false, false, false, false, false, false, false, false] rfl rfl (any_of HT_.out (by kernel_rfl)) (fun _ _ _ h => h) (Or.inl ⟨by rfl, ?_⟩) ?_ ?_
                        rotate_left
                        · intro w'
                          go_simp
                          with_reducible rfl
                        rotate_left
                        · simp only [Act.put, List.setIfInBounds_toArray, List.set_cons_zero, List.set_cons_succ, i64_w, i32_w]
                          rfl
                        refine pure_ (i := 4) (N := some 48) (v := ?_) (a' := ?_) #[true, true, true, true, true, false, false, false, false, false, false, false, false, false, false, false, false] rfl rfl (any_of HT_.out (by kernel_rfl)) (fun _ _ _ h => h) (Or.inl ⟨by rfl, ?_⟩) ?_ ?_
                        rotate_left
                        · intro w'
                          go_simp
                          with_reducible rfl
                        rotate_left
                        · simp only [Act.put, List.setIfInBounds_toArray, List.set_cons_zero, List.set_cons_succ, i64_w, i32_w]
                          rfl
                        refine pure_ (i := 5) (N := some 49) (v := ?_) (a' := ?_) #[true, true, true, true, true, true, false, false, false, false, false, false, false, false, false, false, false] rfl rfl (any_of HT_.out (by kernel_rfl)) (fun _ _ _ h => h) (Or.inl ⟨by rfl, ?_⟩) ?_ ?_
                        rotate_left
                        · intro w'
                          go_simp
                          with_reducible rfl
                        rotate_left
                        · simp only [Act.put, List.setIfInBounds_toArray, List.set_cons_zero, List.set_cons_succ, i64_w, i32_w]
                          rfl
                        refine pure_ (i := 6) (N := some 50) (v := ?_) (a' := ?_) #[true, true, true, true, true, true, true, false, false, false, false, false, false, false, false, false, false] rfl rfl (any_of HT_.out (by kernel_rfl)) (fun _ _ _ h => h) (Or.inl ⟨by rfl, ?_⟩) ?_ ?_
                        rotate_left
                        · intro w'
                          go_simp
                          with_reducible rfl
                        rotate_left
                        · simp only [Act.put, List.setIfInBounds_toArray, List.set_cons_zero, List.set_cons_succ, i64_w, i32_w]
                          rfl
                        refine pure_ (i := 7) (N := some 51) (v := ?_) (a' := ?_) #[true, true, true, true, true, true, true, true, false, false, false, false, false, false, false, false, false] rfl rfl (any_of HT_.out (by kernel_rfl)) (fun _ _ _ h => h) (Or.inl ⟨by rfl, ?_⟩) ?_ ?_
                        rotate_left
                        · intro w'
                          go_simp
                          with_reducible rfl
                        rotate_left
                        · simp only [Act.put, List.setIfInBounds_toArray, List.set_cons_zero, List.set_cons_succ, i64_w, i32_w]
                          rfl
                        refine pure_ (i := 8) (N := some 52) (v := ?_) (a' := ?_) #[true, true, true, true, true, true, true, true, true, false, false, false, false, false, false, false, false] rfl rfl (any_of HT_.out (by kernel_rfl)) (fun _ _ _ h => h) (Or.inl ⟨by rfl, ?_⟩) ?_ ?_
                        rotate_left
                        · intro w'
                          go_simp
                          with_reducible rfl
                        rotate_left
                        · simp only [Act.put, List.setIfInBounds_toArray, List.set_cons_zero, List.set_cons_succ, i64_w, i32_w]
                          rfl
                        refine pure_ (i := 10) (N := some 54) (v := ?_) (a' := ?_) #[true, true, true, true, true, true, true, true, true, false, true, false, false, false, false, false, false] rfl rfl (any_of HT_.out (by kernel_rfl)) (fun _ _ _ h => h) (Or.inl ⟨by rfl, ?_⟩) ?_ ?_
                        rotate_left
                        · intro w'
                          go_simp
                          with_reducible rfl
                        rotate_left
                        · simp only [Act.put, List.setIfInBounds_toArray, List.set_cons_zero, List.set_cons_succ, i64_w, i32_w]
                          rfl
                        refine pure_ (i := 11) (N := some 55) (v := ?_) (a' := ?_) #[true, true, true, true, true, true, true, true, true, false, true, true, false, false, false, false, false] rfl rfl (any_of HT_.out (by kernel_rfl)) (fun _ _ _ h => h) (Or.inl ⟨by rfl, ?_⟩) ?_ ?_
                        rotate_left
                        · intro w'
                          go_simp
                          with_reducible rfl
                        rotate_left
                        · simp only [Act.put, List.setIfInBounds_toArray, List.set_cons_zero, List.set_cons_succ, i64_w, i32_w]
                          rfl
                        refine pure_ (i := 12) (N := some 56) (v := ?_) (a' := ?_) #[true, true, true, true, true, true, true, true, true, false, true, true, true, false, false, false, false] rfl rfl (any_of HT_.out (by kernel_rfl)) (fun _ _ _ h => h) (Or.inl ⟨by rfl, ?_⟩) ?_ ?_
                        rotate_left
                        · intro w'
                          go_simp
                          with_reducible rfl
                        rotate_left
                        · simp only [Act.put, List.setIfInBounds_toArray, List.set_cons_zero, List.set_cons_succ, i64_w, i32_w]
                          rfl
                        refine pure_ (i := 13) (N := some 57) (v := ?_) (a' := ?_) #[true, true, true, true, true, true, true, true, true, false, true, true, true, true, false, false, false] rfl rfl (any_of HT_.out (by kernel_rfl)) (fun _ _ _ h => h) (Or.inl ⟨by rfl, ?_⟩) ?_ ?_
                        rotate_left
                        · intro w'
                          go_simp
                          with_reducible rfl
                        rotate_left
                        · simp only [Act.put, List.setIfInBounds_toArray, List.set_cons_zero, List.set_cons_succ, i64_w, i32_w]
                          rfl
                        refine take_ (i := 9) (N := some 53) (v := ?_) (a' := ?_) #[true, true, true, true, true, true, true, true, true, true, true, true, true, true, false, false, false] rfl rfl (take_ofW HT_.out HW_.out (by kernel_rfl)) (fun _ _ _ h => h) (Or.inl ⟨by rfl, ?_⟩) hHeld ?_ ?_
                        rotate_left
                        · rintro w' ⟨s0, s1, s2, s3⟩
                          go_simp
                          with_reducible rfl
                        rotate_left
                        · simp only [Act.put, List.setIfInBounds_toArray, List.set_cons_zero, List.set_cons_succ, i64_w, i32_w]
                          rfl
                        refine take_ (i := 14) (N := some 58) (v := ?_) (a' := ?_) #[true, true, true, true, true, true, true, true, true, true, true, true, true, true, true, false, false] rfl rfl (take_ofW HT_.out HW_.out (by kernel_rfl)) (fun _ _ _ h => h) (Or.inl ⟨by rfl, ?_⟩) hHeld ?_ ?_
                        rotate_left
                        · rintro w' ⟨s0, s1, s2, s3⟩
                          go_simp
                          with_reducible rfl
                        rotate_left
                        · simp only [Act.put, List.setIfInBounds_toArray, List.set_cons_zero, List.set_cons_succ, i64_w, i32_w]
                          rfl
                        refine pure_ (i := 15) (N := some 59) (v := ?_) (a' := ?_) #[true, true, true, true, true, true, true, true, true, true, true, true, true, true, true, true, false] rfl rfl (any_of HT_.out (by kernel_rfl)) (fun _ _ _ h => h) (Or.inl ⟨by rfl, ?_⟩) ?_ ?_
                        rotate_left
                        · intro w'
                          go_simp
                          with_reducible rfl
                        rotate_left
                        · simp only [Act.put, List.setIfInBounds_toArray, List.set_cons_zero, List.set_cons_succ, i64_w, i32_w]
                          rfl
                        refine pure_ (i := 16) (N := some 60) (v := ?_) (a' := ?_) #[true, true, true, true, true, true, true, true, true, true, true, true, true, true, true, true, true] rfl rfl (any_of HT_.out (by kernel_rfl)) (fun _ _ _ h => h) (Or.inl ⟨by rfl, ?_⟩) ?_ ?_
                        rotate_left
                        · intro w'
                          go_simp
                          with_reducible rfl
                        rotate_left
                        · simp only [Act.put, List.setIfInBounds_toArray, List.set_cons_zero, List.set_cons_succ, i64_w, i32_w]
                          rfl
                        refine done_ (done_of HT_.out (by kernel_rfl)) ?_
                        try go_wp2
                        go_meet
                        case rel => exact ⟨_, ((((rd_T29 x6_1 x8_7).f0) == ((rd_T29 l0 x7_1).f0))), (by first | rfl | (simp; done) | (simp [*]; done)), H', ⟨by have := HK1.out; have := HJ7.out; first | omega | exact Nat.le_refl _⟩, ⟨by (with_reducible repeat (first | apply Kd.R_alloc | apply Kd.R_drewN | apply Kd.R_drew)); exact HO_6.out⟩, ⟨by (with_reducible repeat (first | refine blk_drewN ?_ _ | refine blk_drew ?_ | refine blk_alloc ?_ _)); exact BK264.out⟩, ⟨by repeat (first | (with_reducible first | exact HB.out | apply below_alloc | apply pw_below_drewN | apply below_drew1 | refine below_set ?_ GE264.out) | exact HB.out)⟩⟩
                      · rw [if_neg c24] at H
                        exact absurd H (by simp)
                    · rw [if_neg c23] at H
                      exact absurd H (by simp)
                  · rw [if_neg c22] at H
                    exact absurd H (by simp)
                · rw [if_neg c21] at H
                  have c21b0 : decide (x8_7 < (x6_1.length : Int)) = false := decide_eq_false c21
                  clear c21
                  (first | rw [c21b0] | (simp only [i64_w, i32_w]; rw [c21b0]) | skip)
                  have H' := Aside0.mk H
                  clear H
                  try go_wp2
                  have n0_ := Aside0.mk (Kd.R_drew HO_6.out)
                  have n1_ := Aside0.mk (blk_drew BK264.out)
                  have n2_ := Aside0.mk (below_drew1 HB.out)
                  clear HO_6
                  clear BK264
                  clear HB
                  have HO_6 := n0_
                  have BK264 := n1_
                  have HB := n2_
                  clear n0_ n1_ n2_
                  obtain ⟨Ao28, co28, eo28⟩ := Kd.R_slice HO_6.out
                  (first | subst eo28 | (injection eo28 with f1_ f2_ f3_; have f4_ := f1_.symm; have f5_ := f3_.symm; clear f1_ f2_ f3_; subst f4_; subst f5_))
                  refine start_ (n := 17) (S := fun w' => True) (ds := []) #[false, false, false, false, false, false, false, false, false, false, false, false, false, false, false, false, false] (by kernel_rfl) rfl rfl trivial (fun hHeld => ?_); refine with_tabW payrollref39_Combine.tab11 payrollref39_Combine.bits11 (fun HT_ HW_ => ?_)
                  generalize wc.drew = w27 at HO_6 BK264 HB hHeld ⊢
                  refine pure_ (i := 0) (N := some 44) (v := ?_) (a' := ?_) #[true, false, false, false, false, false, false, false, false, false, false, false, false, false, false, false, false] rfl rfl (any_of HT_.out (by kernel_rfl)) (fun _ _ _ h => h) (Or.inl ⟨by rfl, ?_⟩) ?_ ?_
                  rotate_left
                  · intro w'
                    go_simp
                    with_reducible rfl
                  rotate_left
                  · simp only [Act.put, List.setIfInBounds_toArray, List.set_cons_zero, List.set_cons_succ, i64_w, i32_w]
                    rfl
                  refine pure_ (i := 1) (N := some 45) (v := ?_) (a' := ?_) #[true, true, false, false, false, false, false, false, false, false, false, false, false, false, false, false, false] rfl rfl (any_of HT_.out (by kernel_rfl)) (fun _ _ _ h => h) (Or.inl ⟨by rfl, ?_⟩) ?_ ?_
                  rotate_left
                  · intro w'
                    go_simp
                    with_reducible rfl
                  rotate_left
                  · simp only [Act.put, List.setIfInBounds_toArray, List.set_cons_zero, List.set_cons_succ, i64_w, i32_w]
                    rfl
                  refine pure_ (i := 2) (N := some 46) (v := ?_) (a' := ?_) #[true, true, true, false, false, false, false, false, false, false, false, false, false, false, false, false, false] rfl rfl (any_of HT_.out (by kernel_rfl)) (fun _ _ _ h => h) (Or.inl ⟨by rfl, ?_⟩) ?_ ?_
                  rotate_left
                  · intro w'
                    go_simp
                    with_reducible rfl
                  rotate_left
                  · simp only [Act.put, List.setIfInBounds_toArray, List.set_cons_zero, List.set_cons_succ, i64_w, i32_w]
                    rfl
                  refine pure_ (i := 3) (N := some 47) (v := ?_) (a' := ?_) #[true, true, true, true, false, false, false, false, false, false, false, false, false, false, false, false, false] rfl rfl (any_of HT_.out (by kernel_rfl)) (fun _ _ _ h => h) (Or.inl ⟨by rfl, ?_⟩) ?_ ?_
                  rotate_left
                  · intro w'
                    go_simp
                    with_reducible rfl
                  rotate_left
                  · simp only [Act.put, List.setIfInBounds_toArray, List.set_cons_zero, List.set_cons_succ, i64_w, i32_w]
                    rfl
                  refine pure_ (i := 4) (N := some 48) (v := ?_) (a' := ?_) #[true, true, true, true, true, false, false, false, false, false, false, false, false, false, false, false, false] rfl rfl (any_of HT_.out (by kernel_rfl)) (fun _ _ _ h => h) (Or.inl ⟨by rfl, ?_⟩) ?_ ?_
                  rotate_left
                  · intro w'
                    go_simp
                    with_reducible rfl
                  rotate_left
                  · simp only [Act.put, List.setIfInBounds_toArray, List.set_cons_zero, List.set_cons_succ, i64_w, i32_w]
                    rfl
                  refine pure_ (i := 5) (N := some 49) (v := undef) (a' := ?_) #[true, true, true, true, true, true, false, false, false, false, false, false, false, false, false, false, false] rfl rfl (any_of HT_.out (by kernel_rfl)) (fun _ _ _ h => h) (Or.inr ⟨by rfl, rfl⟩) ?_ ?_
                  rotate_left
                  · simp only [Act.put, List.setIfInBounds_toArray, List.set_cons_zero, List.set_cons_succ, i64_w, i32_w]
                    rfl
                  refine pure_ (i := 6) (N := some 50) (v := undef) (a' := ?_) #[true, true, true, true, true, true, true, false, false, false, false, false, false, false, false, false, false] rfl rfl (any_of HT_.out (by kernel_rfl)) (fun _ _ _ h => h) (Or.inr ⟨by rfl, rfl⟩) ?_ ?_
                  rotate_left
                  · simp only [Act.put, List.setIfInBounds_toArray, List.set_cons_zero, List.set_cons_succ, i64_w, i32_w]
                    rfl
                  refine pure_ (i := 7) (N := some 51) (v := undef) (a' := ?_) #[true, true, true, true, true, true, true, true, false, false, false, false, false, false, false, false, false] rfl rfl (any_of HT_.out (by kernel_rfl)) (fun _ _ _ h => h) (Or.inr ⟨by rfl, rfl⟩) ?_ ?_
                  rotate_left
                  · simp only [Act.put, List.setIfInBounds_toArray, List.set_cons_zero, List.set_cons_succ, i64_w, i32_w]
                    rfl
                  refine pure_ (i := 8) (N := some 52) (v := undef) (a' := ?_) #[true, true, true, true, true, true, true, true, true, false, false, false, false, false, false, false, false] rfl rfl (any_of HT_.out (by kernel_rfl)) (fun _ _ _ h => h) (Or.inr ⟨by rfl, rfl⟩) ?_ ?_
                  rotate_left
                  · simp only [Act.put, List.setIfInBounds_toArray, List.set_cons_zero, List.set_cons_succ, i64_w, i32_w]
                    rfl
                  refine pure_ (i := 9) (N := some 53) (v := undef) (a' := ?_) #[true, true, true, true, true, true, true, true, true, true, false, false, false, false, false, false, false] rfl rfl (any_of HT_.out (by kernel_rfl)) (fun _ _ _ h => h) (Or.inr ⟨by rfl, rfl⟩) ?_ ?_
                  rotate_left
                  · simp only [Act.put, List.setIfInBounds_toArray, List.set_cons_zero, List.set_cons_succ, i64_w, i32_w]
                    rfl
                  refine pure_ (i := 10) (N := some 54) (v := undef) (a' := ?_) #[true, true, true, true, true, true, true, true, true, true, true, false, false, false, false, false, false] rfl rfl (any_of HT_.out (by kernel_rfl)) (fun _ _ _ h => h) (Or.inr ⟨by rfl, rfl⟩) ?_ ?_
                  rotate_left
                  · simp only [Act.put, List.setIfInBounds_toArray, List.set_cons_zero, List.set_cons_succ, i64_w, i32_w]
                    rfl
                  refine pure_ (i := 11) (N := some 55) (v := undef) (a' := ?_) #[true, true, true, true, true, true, true, true, true, true, true, true, false, false, false, false, false] rfl rfl (any_of HT_.out (by kernel_rfl)) (fun _ _ _ h => h) (Or.inr ⟨by rfl, rfl⟩) ?_ ?_
                  rotate_left
                  · simp only [Act.put, List.setIfInBounds_toArray, List.set_cons_zero, List.set_cons_succ, i64_w, i32_w]
                    rfl
                  refine pure_ (i := 12) (N := some 56) (v := undef) (a' := ?_) #[true, true, true, true, true, true, true, true, true, true, true, true, true, false, false, false, false] rfl rfl (any_of HT_.out (by kernel_rfl)) (fun _ _ _ h => h) (Or.inr ⟨by rfl, rfl⟩) ?_ ?_
                  rotate_left
                  · simp only [Act.put, List.setIfInBounds_toArray, List.set_cons_zero, List.set_cons_succ, i64_w, i32_w]
                    rfl
                  refine pure_ (i := 13) (N := some 57) (v := undef) (a' := ?_) #[true, true, true, true, true, true, true, true, true, true, true, true, true, true, false, false, false] rfl rfl (any_of HT_.out (by kernel_rfl)) (fun _ _ _ h => h) (Or.inr ⟨by rfl, rfl⟩) ?_ ?_
                  rotate_left
                  · simp only [Act.put, List.setIfInBounds_toArray, List.set_cons_zero, List.set_cons_succ, i64_w, i32_w]
                    rfl
                  refine pure_ (i := 14) (N := some 58) (v := undef) (a' := ?_) #[true, true, true, true, true, true, true, true, true, true, true, true, true, true, true, false, false] rfl rfl (any_of HT_.out (by kernel_rfl)) (fun _ _ _ h => h) (Or.inr ⟨by rfl, rfl⟩) ?_ ?_
                  rotate_left
                  · simp only [Act.put, List.setIfInBounds_toArray, List.set_cons_zero, List.set_cons_succ, i64_w, i32_w]
                    rfl
                  refine pure_ (i := 15) (N := some 59) (v := undef) (a' := ?_) #[true, true, true, true, true, true, true, true, true, true, true, true, true, true, true, true, false] rfl rfl (any_of HT_.out (by kernel_rfl)) (fun _ _ _ h => h) (Or.inr ⟨by rfl, rfl⟩) ?_ ?_
                  rotate_left
                  · simp only [Act.put, List.setIfInBounds_toArray, List.set_cons_zero, List.set_cons_succ, i64_w, i32_w]
                    rfl
                  refine pure_ (i := 16) (N := some 60) (v := ?_) (a' := ?_) #[true, true, true, true, true, true, true, true, true, true, true, true, true, true, true, true, true] rfl rfl (any_of HT_.out (by kernel_rfl)) (fun _ _ _ h => h) (Or.inl ⟨by rfl, ?_⟩) ?_ ?_
                  rotate_left
                  · intro w'
                    go_simp
                    with_reducible rfl
                  rotate_left
                  · simp only [Act.put, List.setIfInBounds_toArray, List.set_cons_zero, List.set_cons_succ, i64_w, i32_w]
                    rfl
                  refine done_ (done_of HT_.out (by kernel_rfl)) ?_
                  try go_wp2
                  go_meet
                  case rel => exact ⟨_, (false), (by first | rfl | (simp; done) | (simp [*]; done)), H', ⟨by have := HK1.out; have := HJ7.out; first | omega | exact Nat.le_refl _⟩, ⟨by (with_reducible repeat (first | apply Kd.R_alloc | apply Kd.R_drewN | apply Kd.R_drew)); exact HO_6.out⟩, ⟨by (with_reducible repeat (first | refine blk_drewN ?_ _ | refine blk_drew ?_ | refine blk_alloc ?_ _)); exact BK264.out⟩, ⟨by repeat (first | (with_reducible first | exact HB.out | apply below_alloc | apply pw_below_drewN | apply below_drew1 | refine below_set ?_ GE264.out) | exact HB.out)⟩⟩
              case rest =>
                clear HC20
                try clear c1
                try clear c2
                try clear p2
                try clear q2
                try clear hx2
                try clear c3
                try clear c3b0
                try clear c3b1
                try clear p6
                try clear c7
                try clear c7b0
                try clear c9
                try clear c9b0
                try clear c10
                try clear c10b0
                try clear c11
                try clear c11b0
                try clear c12
                try clear c12b0
                try clear c13
                try clear c13b0
                try clear c21
                try clear c21b0
                try clear c22
                try clear c22b0
                try clear c23
                try clear c23b0
                try clear c24
                try clear c24b0
                try clear p26
                try clear q26
                try clear hx26
                try clear hcz6_0
                try clear hcz6_1
                try clear hcz6_2
                try clear hfz6_0
                try clear hfz6_1
                try clear hfz6_2
                try clear hx265_0
                try clear hx265_1
                try clear hx266_0
                try clear hx266_1
                try clear hx267_0
                try clear hx267_1
                try clear hx268_0
                try clear hx268_1
                try clear p2
                try clear p265
                try clear p266
                try clear p267
                try clear p268
                try clear p6
                try clear q2
                try clear q265
                try clear q266
                try clear q267
                try clear q268
                obtain ⟨kq, x60_19, rfl, HA, HJ19, HO_6, BK264, HB⟩ := hcut
                cases kq with
                | zero => exact absurd HA.out (by simp [payrollref39_Combine.j3])
                | succ kj19 =>
                  have H := HA.out
                  clear HA
                  simp only [payrollref39_Combine.j3] at H
                  by_cases c29 : x60_19 = true
                  · subst c29
                    have H1 : (if 0 ≤ x8_7 then (if x8_7 < (x6_1.length : Int) then (if 0 ≤ x7_1 then (if x7_1 < (l0.length : Int) then (payrollref39_Combine.l0 kj19 l0 (x6_1.set (x8_7 : Int).toNat (⟨(rd_T29 x6_1 x8_7).f0, wrap64 (((rd_T29 x6_1 x8_7).f1) + ((rd_T29 l0 x7_1).f1))⟩ : S29)) (wrap64 (x7_1 + 1))) else (none)) else (none)) else (none)) else (none)) = some (r1, r2) := by rw [if_pos rfl] at H; exact H
                    clear H
                    have H := H1
                    clear H1
                    by_cases c30 : 0 ≤ x8_7
                    · rw [if_pos c30] at H
                      have c30b0 : decide (0 ≤ x8_7) = true := decide_eq_true c30
                      clear c30
                      by_cases c31 : x8_7 < (x6_1.length : Int)
                      · rw [if_pos c31] at H
                        have c31b0 : decide (x8_7 < (x6_1.length : Int)) = true := decide_eq_true c31
                        clear c31
                        by_cases c32 : 0 ≤ x7_1
                        · rw [if_pos c32] at H
                          have c32b0 : decide (0 ≤ x7_1) = true := decide_eq_true c32
                          clear c32
                          by_cases c33 : x7_1 < (l0.length : Int)
                          · rw [if_pos c33] at H
                            have c33b0 : decide (x7_1 < (l0.length : Int)) = true := decide_eq_true c33
                            clear c33
                            obtain ⟨y271, hy271⟩ : ∃ y_ : List (S29), y_ = (x6_1.set (x8_7 : Int).toNat (⟨(rd_T29 x6_1 x8_7).f0, wrap64 (((rd_T29 x6_1 x8_7).f1) + ((rd_T29 l0 x7_1).f1))⟩ : S29)) := ⟨_, rfl⟩
                            replace H : (payrollref39_Combine.l0 kj19 l0 y271 (wrap64 (x7_1 + 1))) = some (r1, r2) := by first | (rw [hy271]; with_reducible exact H) | (have H2_ := (Option.bind_some _ _).symm.trans H; rw [hy271]; with_reducible exact H2_) | (have H2_ := (Option.bind_some _ _).symm.trans H; with_reducible exact H2_) | with_reducible exact H | (rw [hy271]; exact H) | exact H
                            have Ny271 := Aside0.mk hy271
                            clear hy271
                            have H' := Aside0.mk H
                            clear H
                            try go_wp2
                            have n0_ := Aside0.mk (Kd.R_drew HO_6.out)
                            have n1_ := Aside0.mk (blk_drew BK264.out)
                            have n2_ := Aside0.mk (below_drew1 HB.out)
                            clear HO_6
                            clear BK264
                            clear HB
                            have HO_6 := n0_
                            have BK264 := n1_
                            have HB := n2_
                            clear n0_ n1_ n2_
                            obtain ⟨Ao36, co36, eo36⟩ := Kd.R_slice HO_6.out
                            (first | subst eo36 | (injection eo36 with f1_ f2_ f3_; have f4_ := f1_.symm; have f5_ := f3_.symm; clear f1_ f2_ f3_; subst f4_; subst f5_))
                            have p269 : 0 ≤ (x8_7 : Int) := of_decide_eq_true (by first | (with_reducible assumption) | assumption)
                            have q269 : x8_7 < (x6_1.length : Int) := of_decide_eq_true (by first | (with_reducible assumption) | assumption)
                            obtain ⟨ad269, e269, hx269_0, hx269_1⟩ := at_T29 (Kd.R_reads' HO_6.out).2.2 x8_7 p269 q269
                            cases e269
                            replace p269 := eq_true p269
                            replace q269 := eq_true q269
                            have p270 : 0 ≤ (x7_1 : Int) := of_decide_eq_true (by first | (with_reducible assumption) | assumption)
                            have q270 : x7_1 < (l0.length : Int) := of_decide_eq_true (by first | (with_reducible assumption) | assumption)
                            obtain ⟨ad270, e270, hx270_0, hx270_1⟩ := at_T29 HR0.out x7_1 p270 q270
                            have hw270_1 := hx270_1
                            have hw270_0 := hx270_0
                            cases e270
                            replace hx270_0 := (HB.out.cell (World.block_lt_of_cell? w _ hx270_0)).trans hx270_0
                            replace hx270_1 := (HB.out.cell (World.block_lt_of_cell? w _ hx270_1)).trans hx270_1
                            replace p270 := eq_true p270
                            replace q270 := eq_true q270
                            have p34 : 0 ≤ (x8_7 : Int) := of_decide_eq_true (by first | (with_reducible assumption) | assumption)
                            have q34 : (x8_7 : Int) < ((x6_1.length : Int) : Int) := of_decide_eq_true (by first | (with_reducible assumption) | assumption)
                            obtain ⟨go34, co34, eo34, gb34, gl34, cl34, HG34⟩ := Kd.R_form HO_6.out (by omega)
                            (first | cases eo34 | (injection eo34 with ea_ en_ ec_; (first | subst ea_ | (injection ea_ with ea_; subst ea_)); subst ec_; clear en_))
                            have GB34 := Aside0.mk gb34
                            have GG34 := Aside0.mk HG34
                            clear gb34 gl34 HG34
                            (first | simp only [add_plain] at hx269_0 | skip)
                            (first | simp only [add_plain] at hx269_1 | skip)
                            obtain ⟨ce34, hcl34, hM34, hcc34, hfr34⟩ := Kd.R_elem HO_6.out z29 (x8_7 : Int) p34 q34
                            obtain rfl := k29_openM hM34
                            have hx34_0 : World.cell? _ ⟨go34, (x8_7 : Int).toNat * 2, none⟩ = some (.int .i64 ((rd_T29 x6_1 x8_7).f0)) := hcc34 0 _ rfl
                            have hx34_1 : World.cell? _ ⟨go34, (x8_7 : Int).toNat * 2 + 1, none⟩ = some (.int .i64 ((rd_T29 x6_1 x8_7).f1)) := hcc34 1 _ rfl
                            have hf34_0 : World.frozen? _ ⟨go34, (x8_7 : Int).toNat * 2, none⟩ = false := hfr34 0
                            have hf34_1 : World.frozen? _ ⟨go34, (x8_7 : Int).toNat * 2 + 1, none⟩ = false := hfr34 1
                            clear hcl34 hcc34 hfr34 hM34
                            replace p34 := eq_true p34
                            replace q34 := eq_true q34
                            obtain ⟨ce37, hcl37, hM37, hcc37, hfr37⟩ := Kd.R_elem HO_6.out z29 (x8_7 : Int) (of_decide_eq_true (by first | (with_reducible assumption) | assumption)) (by have h_ : (x8_7 : Int) < ((x6_1.length : Int) : Int) := of_decide_eq_true (by first | (with_reducible assumption) | assumption); first | exact h_ | (have e_ := (Kd.R_reads' HO_6.out).1; omega) | simpa using h_)
                            obtain rfl := k29_openM hM37
                            have HP37 := (Kd.R_seg HO_6.out (x8_7 : Int) (of_decide_eq_true (by first | (with_reducible assumption) | assumption)) (by have h_ : (x8_7 : Int) < ((x6_1.length : Int) : Int) := of_decide_eq_true (by first | (with_reducible assumption) | assumption); first | exact h_ | (have e_ := (Kd.R_reads' HO_6.out).1; omega) | simpa using h_) (seg := [.int .i64 (wrap64 (((rd_T29 x6_1 x8_7).f1) + ((rd_T29 l0 x7_1).f1)))]) (j := 1) hcl37 hcc37 (show 2 ≤ 2 from by decide) (x' := (⟨(rd_T29 x6_1 x8_7).f0, wrap64 (((rd_T29 x6_1 x8_7).f1) + ((rd_T29 l0 x7_1).f1))⟩ : S29)) (k29_mkM _ _ _ (⟨(rd_T29 x6_1 x8_7).f0, wrap64 (((rd_T29 x6_1 x8_7).f1) + ((rd_T29 l0 x7_1).f1))⟩ : S29) ) (fun _ hk => hk)).1
                            rw [← Ny271.out] at HP37
                            have HQ37 := Aside0.mk HP37
                            clear hcl37 hcc37 hfr37 hM37 HP37
                            refine start_ (n := 14) (S := fun w' => w'.cell? ⟨go34, ((x8_7).toNat * 2), none⟩ = some (.int .i64 ((rd_T29 x6_1 x8_7).f0)) ∧ w'.cell? ⟨go34, ((x8_7).toNat * 2) + 1, none⟩ = some (.int .i64 ((rd_T29 x6_1 x8_7).f1)) ∧ w'.cell? (ad270.add ((x7_1).toNat * 2)) = some (.int .i64 ((rd_T29 l0 x7_1).f0)) ∧ w'.cell? ⟨(ad270.add ((x7_1).toNat * 2)).block, (ad270.add ((x7_1).toNat * 2)).off + 1, none⟩ = some (.int .i64 ((rd_T29 l0 x7_1).f1))) (ds := [13]) #[false, false, false, false, false, false, false, false, false, false, false, false, false, false] (by kernel_rfl) rfl rfl ⟨hx269_0, hx269_1, ((HB.out.cell (World.block_lt_of_cell? w _ hw270_0)).trans hw270_0), ((HB.out.cell (World.block_lt_of_cell? w _ hw270_1)).trans hw270_1)⟩ (fun hHeld => ?_); refine with_tabW payrollref39_Combine.tab12 payrollref39_Combine.bits12 (fun HT_ HW_ => ?_)
                            generalize wc.drew = w35 at HO_6 BK264 HB GG34 HQ37 hf34_0 hf34_1 hx269_0 hx269_1 hx270_0 hx270_1 hx34_0 hx34_1 hHeld ⊢
                            refine pure_ (i := 0) (N := some 61) (v := ?_) (a' := ?_) #[true, false, false, false, false, false, false, false, false, false, false, false, false, false] rfl rfl (any_of HT_.out (by kernel_rfl)) (fun _ _ _ h => h) (Or.inl ⟨by rfl, ?_⟩) ?_ ?_
                            rotate_left
                            · intro w'
                              go_simp
                              with_reducible rfl
                            rotate_left
                            · simp only [Act.put, List.setIfInBounds_toArray, List.set_cons_zero, List.set_cons_succ, i64_w, i32_w]
                              rfl
                            refine pure_ (i := 1) (N := some 62) (v := ?_) (a' := ?_) #[true, true, false, false, false, false, false, false, false, false, false, false, false, false] rfl rfl (any_of HT_.out (by kernel_rfl)) (fun _ _ _ h => h) (Or.inl ⟨by rfl, ?_⟩) ?_ ?_
                            rotate_left
                            · intro w'
                              go_simp
                              with_reducible rfl
                            rotate_left
                            · simp only [Act.put, List.setIfInBounds_toArray, List.set_cons_zero, List.set_cons_succ, i64_w, i32_w]
                              rfl
                            refine pure_ (i := 2) (N := some 63) (v := ?_) (a' := ?_) #[true, true, true, false, false, false, false, false, false, false, false, false, false, false] rfl rfl (any_of HT_.out (by kernel_rfl)) (fun _ _ _ h => h) (Or.inl ⟨by rfl, ?_⟩) ?_ ?_
                            rotate_left
                            · intro w'
                              go_simp
                              with_reducible rfl
                            rotate_left
                            · simp only [Act.put, List.setIfInBounds_toArray, List.set_cons_zero, List.set_cons_succ, i64_w, i32_w]
                              rfl
                            refine pure_ (i := 3) (N := some 64) (v := ?_) (a' := ?_) #[true, true, true, true, false, false, false, false, false, false, false, false, false, false] rfl rfl (any_of HT_.out (by kernel_rfl)) (fun _ _ _ h => h) (Or.inl ⟨by rfl, ?_⟩) ?_ ?_
                            rotate_left
                            · intro w'
                              go_simp
                              with_reducible rfl
                            rotate_left
                            · simp only [Act.put, List.setIfInBounds_toArray, List.set_cons_zero, List.set_cons_succ, i64_w, i32_w]
                              rfl
                            refine pure_ (i := 5) (N := some 66) (v := ?_) (a' := ?_) #[true, true, true, true, false, true, false, false, false, false, false, false, false, false] rfl rfl (any_of HT_.out (by kernel_rfl)) (fun _ _ _ h => h) (Or.inl ⟨by rfl, ?_⟩) ?_ ?_
                            rotate_left
                            · intro w'
                              go_simp
                              with_reducible rfl
                            rotate_left
                            · simp only [Act.put, List.setIfInBounds_toArray, List.set_cons_zero, List.set_cons_succ, i64_w, i32_w]
                              rfl
                            refine pure_ (i := 6) (N := some 67) (v := ?_) (a' := ?_) #[true, true, true, true, false, true, true, false, false, false, false, false, false, false] rfl rfl (any_of HT_.out (by kernel_rfl)) (fun _ _ _ h => h) (Or.inl ⟨by rfl, ?_⟩) ?_ ?_
                            rotate_left
                            · intro w'
                              go_simp
                              with_reducible rfl
                            rotate_left
                            · simp only [Act.put, List.setIfInBounds_toArray, List.set_cons_zero, List.set_cons_succ, i64_w, i32_w]
                              rfl
                            refine pure_ (i := 7) (N := some 68) (v := ?_) (a' := ?_) #[true, true, true, true, false, true, true, true, false, false, false, false, false, false] rfl rfl (any_of HT_.out (by kernel_rfl)) (fun _ _ _ h => h) (Or.inl ⟨by rfl, ?_⟩) ?_ ?_
                            rotate_left
                            · intro w'
                              go_simp
                              with_reducible rfl
                            rotate_left
                            · simp only [Act.put, List.setIfInBounds_toArray, List.set_cons_zero, List.set_cons_succ, i64_w, i32_w]
                              rfl
                            refine pure_ (i := 8) (N := some 69) (v := ?_) (a' := ?_) #[true, true, true, true, false, true, true, true, true, false, false, false, false, false] rfl rfl (any_of HT_.out (by kernel_rfl)) (fun _ _ _ h => h) (Or.inl ⟨by rfl, ?_⟩) ?_ ?_
                            rotate_left
                            · intro w'
                              go_simp
                              with_reducible rfl
                            rotate_left
                            · simp only [Act.put, List.setIfInBounds_toArray, List.set_cons_zero, List.set_cons_succ, i64_w, i32_w]
                              rfl
                            refine take_ (i := 4) (N := some 65) (v := ?_) (a' := ?_) #[true, true, true, true, true, true, true, true, true, false, false, false, false, false] rfl rfl (take_ofW HT_.out HW_.out (by kernel_rfl)) (fun _ _ _ h => h) (Or.inl ⟨by rfl, ?_⟩) hHeld ?_ ?_
                            rotate_left
                            · rintro w' ⟨s0, s1, s2, s3⟩
                              go_simp
                              with_reducible rfl
                            rotate_left
                            · simp only [Act.put, List.setIfInBounds_toArray, List.set_cons_zero, List.set_cons_succ, i64_w, i32_w]
                              rfl
                            refine take_ (i := 9) (N := some 70) (v := ?_) (a' := ?_) #[true, true, true, true, true, true, true, true, true, true, false, false, false, false] rfl rfl (take_ofW HT_.out HW_.out (by kernel_rfl)) (fun _ _ _ h => h) (Or.inl ⟨by rfl, ?_⟩) hHeld ?_ ?_
                            rotate_left
                            · rintro w' ⟨s0, s1, s2, s3⟩
                              go_simp
                              with_reducible rfl
                            rotate_left
                            · simp only [Act.put, List.setIfInBounds_toArray, List.set_cons_zero, List.set_cons_succ, i64_w, i32_w]
                              rfl
                            refine pure_ (i := 10) (N := some 71) (v := ?_) (a' := ?_) #[true, true, true, true, true, true, true, true, true, true, true, false, false, false] rfl rfl (any_of HT_.out (by kernel_rfl)) (fun _ _ _ h => h) (Or.inl ⟨by rfl, ?_⟩) ?_ ?_
                            rotate_left
                            · intro w'
                              go_simp
                              with_reducible rfl
                            rotate_left
                            · simp only [Act.put, List.setIfInBounds_toArray, List.set_cons_zero, List.set_cons_succ, i64_w, i32_w]
                              rfl
                            refine pure_ (i := 11) (N := some 72) (v := ?_) (a' := ?_) #[true, true, true, true, true, true, true, true, true, true, true, true, false, false] rfl rfl (any_of HT_.out (by kernel_rfl)) (fun _ _ _ h => h) (Or.inl ⟨by rfl, ?_⟩) ?_ ?_
                            rotate_left
                            · intro w'
                              go_simp
                              with_reducible rfl
                            rotate_left
                            · simp only [Act.put, List.setIfInBounds_toArray, List.set_cons_zero, List.set_cons_succ, i64_w, i32_w]
                              rfl
                            refine pure_ (i := 12) (N := some 73) (v := ?_) (a' := ?_) #[true, true, true, true, true, true, true, true, true, true, true, true, true, false] rfl rfl (any_of HT_.out (by kernel_rfl)) (fun _ _ _ h => h) (Or.inl ⟨by rfl, ?_⟩) ?_ ?_
                            rotate_left
                            · intro w'
                              go_simp
                              with_reducible rfl
                            rotate_left
                            · simp only [Act.put, List.setIfInBounds_toArray, List.set_cons_zero, List.set_cons_succ, i64_w, i32_w]
                              rfl
                            refine last_ (i := 13) (N := none) #[true, true, true, true, true, true, true, true, true, true, true, true, true, true] rfl rfl (one_of HT_.out (by kernel_rfl)) (by decide) (fun K hK => ?_)
                            refine skip_ (w1 := ?_) (by rfl) rfl ?_ ?_
                            rotate_left
                            · go_simp
                              rfl
                            refine hK.out _ _ ?_
                            clear hK K
                            refine done_ (done_of HT_.out (by kernel_rfl)) ?_
                            try go_wp2
                            go_roundg kj19
                            case measure => have := HK1.out; have := HJ7.out; have := HJ19.out; omega
                            case rel => exact ⟨(y271), (wrap64 (x7_1 + 1)), (by first | rfl | (simp; done) | (simp [*]; done)), H', ⟨by have := HK1.out; have := HJ7.out; have := HJ19.out; omega⟩, ⟨by (with_reducible repeat (first | apply Kd.R_alloc | apply Kd.R_drewN | apply Kd.R_drew)); exact HQ37.out⟩, ⟨by (with_reducible repeat (first | refine blk_drewN ?_ _ | refine blk_drew ?_ | refine blk_alloc ?_ _)); refine blk_far ?_ (by have h_ := Kd.R_ne HO_6.out BK264.out (by decide); intro e_; exact h_ (by rw [e_]; rfl)) _; (with_reducible repeat (first | refine blk_drewN ?_ _ | refine blk_drew ?_ | refine blk_alloc ?_ _)); exact BK264.out⟩, ⟨by repeat (first | (with_reducible first | exact HB.out | apply below_alloc | apply pw_below_drewN | apply below_drew1 | refine below_set ?_ GB34.out | refine below_set ?_ GE264.out) | exact HB.out)⟩⟩
                          · rw [if_neg c33] at H
                            exact absurd H (by simp)
                        · rw [if_neg c32] at H
                          exact absurd H (by simp)
                      · rw [if_neg c31] at H
                        exact absurd H (by simp)
                    · rw [if_neg c30] at H
                      exact absurd H (by simp)
                  · replace c29 := Bool.eq_false_iff.mpr c29
                    subst c29
                    have H1 : (if x6_1.length < 8796093022208 then ((some (x6_1 ++ [(⟨0, 0⟩ : S29)] : List (S29))).bind fun y272 => (payrollref39_Combine.l2 kj19 l0 y272 x7_1 x8_7 (wrap64 ((y272.length : Int) - 1)))) else (none)) = some (r1, r2) := by rw [if_neg (show ¬ (false = true) by decide)] at H; exact H
                    clear H
                    have H := H1
                    clear H1
                    by_cases c38 : x6_1.length < 8796093022208
                    · rw [if_pos c38] at H
                      have LMc38 := Aside0.mk c38
                      clear c38
                      obtain ⟨y272, hy272⟩ : ∃ y_ : List (S29), y_ = (x6_1 ++ [(⟨0, 0⟩ : S29)]) := ⟨_, rfl⟩
                      replace H : (payrollref39_Combine.l2 kj19 l0 y272 x7_1 x8_7 (wrap64 ((y272.length : Int) - 1))) = some (r1, r2) := by first | (rw [hy272]; with_reducible exact H) | (have H2_ := (Option.bind_some _ _).symm.trans H; rw [hy272]; with_reducible exact H2_) | (have H2_ := (Option.bind_some _ _).symm.trans H; with_reducible exact H2_) | with_reducible exact H | (rw [hy272]; exact H) | exact H
                      have Ny272 := Aside0.mk hy272
                      clear hy272
                      have H' := Aside0.mk H
                      clear H
                      go_wp2_with (first | ((with_reducible refine gate_builtin (b := .append) (xs := #[.tmp 74, .tmp 76]) rfl ?_); at_builtin; refine Kd.R_append k29 (w0 := w) w.heap.size rfl (.tmp 74) (.tmp 76) 25 29 (.agg #[(.int .i64 0), (.int .i64 0)]) 16 rfl Try.underlying25 info29 rfl (by decide) (by omega) u6 x6_1 (⟨0, 0⟩ : S29) [.int .i64 0, .int .i64 0] (fun _ => True) (fun _ => False) rfl rfl ?aP (fun _ hk => hk.elim) ?aF ?aO ?aB ?aS ?aL ?_; (case aP => exact k29_mkM _ _ _ (⟨0, 0⟩ : S29)); (case aB => exact (by repeat (first | (with_reducible first | exact HB.out | apply below_alloc | apply pw_below_drewN | apply below_drew1 | refine below_set ?_ GE264.out) | exact HB.out))); (case aF => exact (fun _ _ => trivial)); (case aO => exact (by (with_reducible repeat (first | apply Kd.R_alloc | apply Kd.R_drewN | apply Kd.R_drew)); exact HO_6.out)); (case aS => exact (below_size (by repeat (first | (with_reducible first | exact HB.out | apply below_alloc | apply pw_below_drewN | apply below_drew1 | refine below_set ?_ GE264.out) | exact HB.out)))); (case aL => have := LMc38.out; omega); intro v273 w39 ho hb hg hat; rw [← Ny272.out] at ho; have n0_ := Aside0.mk (blk_grown (g := gb264) (o := .cells #[.int .i64 t260, .int .i64 t261, .int .i64 t262] 34 (0, 0)) (by (with_reducible repeat (first | refine blk_drewN ?_ _ | refine blk_drew ?_ | refine blk_alloc ?_ _)); exact BK264.out) hg (Kd.R_ne HO_6.out BK264.out (by decide))); have n1_ := Aside0.mk (hb); have n2_ := Aside0.mk (ho); clear BK264; clear HB; clear HO_6; have BK264 := n0_; have HB := n1_; have HO274 := n2_; clear n0_ n1_ n2_; clear ho hb hg hat; obtain ⟨Ao40, co40, eo40⟩ := Kd.R_slice HO274.out; subst eo40))
                      go_loopg [9] kj19 (fun kq v9 w' => ∃ (x6_4 : List (S29)) (x9_4 : Int), v9 = .int .i64 x9_4 ∧ Aside0 (payrollref39_Combine.l2 kq l0 x6_4 x7_1 x8_7 x9_4 = some (r1, r2)) ∧ Aside0 (kq ≤ kj19) ∧ Aside0 (Kd.R k29 29 w' w.heap.size (fun _ => True) (.slice Ao40 y272.length co40) x6_4) ∧ Aside0 (w'.heap[gb264]? = some (.cells #[.int .i64 t260, .int .i64 t261, .int .i64 t262] 34 (0, 0))) ∧ Aside0 (Below w.heap.size w w'))
                      case atStart => exact ⟨(y272), (wrap64 ((y272.length : Int) - 1)), (by first | rfl | (simp; done) | (simp [*]; done)), H', ⟨Nat.le_refl _⟩, ⟨by (with_reducible repeat (first | apply Kd.R_alloc | apply Kd.R_drewN | apply Kd.R_drew)); exact HO274.out⟩, ⟨by (with_reducible repeat (first | refine blk_drewN ?_ _ | refine blk_drew ?_ | refine blk_alloc ?_ _)); exact BK264.out⟩, ⟨by repeat (first | (with_reducible first | exact HB.out | apply below_alloc | apply pw_below_drewN | apply below_drew1 | refine below_set ?_ GE264.out) | exact HB.out)⟩⟩
                      case round =>
                        clear H'
                        try clear c1
                        try clear c2
                        try clear p2
                        try clear q2
                        try clear hx2
                        try clear c3
                        try clear c3b0
                        try clear c3b1
                        try clear p3
                        try clear q3
                        try clear hx3
                        try clear hf3
                        try clear p6
                        try clear c7
                        try clear c7b0
                        try clear c9
                        try clear c9b0
                        try clear c10
                        try clear c10b0
                        try clear c11
                        try clear c11b0
                        try clear c12
                        try clear c12b0
                        try clear c13
                        try clear c13b0
                        try clear c21
                        try clear c21b0
                        try clear c22
                        try clear c22b0
                        try clear c23
                        try clear c23b0
                        try clear c24
                        try clear c24b0
                        try clear p26
                        try clear q26
                        try clear hx26
                        try clear p27
                        try clear q27
                        try clear hx27
                        try clear c29
                        try clear c30
                        try clear c30b0
                        try clear c31
                        try clear c31b0
                        try clear c32
                        try clear c32b0
                        try clear c33
                        try clear c33b0
                        try clear c34
                        try clear p34
                        try clear q34
                        try clear hx34
                        try clear hf34
                        try clear c37
                        try clear c38
                        try clear hcz6_0
                        try clear hcz6_1
                        try clear hcz6_2
                        try clear hfz6_0
                        try clear hfz6_1
                        try clear hfz6_2
                        try clear hx265_0
                        try clear hx265_1
                        try clear hx266_0
                        try clear hx266_1
                        try clear hx267_0
                        try clear hx267_1
                        try clear hx268_0
                        try clear hx268_1
                        try clear hx269_0
                        try clear hx269_1
                        try clear hx270_0
                        try clear hx270_1
                        try clear hx34_0
                        try clear hx34_1
                        try clear p2
                        try clear p26
                        try clear p265
                        try clear p266
                        try clear p267
                        try clear p268
                        try clear p269
                        try clear p270
                        try clear p34
                        try clear p6
                        try clear q2
                        try clear q26
                        try clear q265
                        try clear q266
                        try clear q267
                        try clear q268
                        try clear q269
                        try clear q270
                        try clear q34
                        obtain ⟨x6_4, x9_4, rfl, HA, HK4, HO_6, BK264, HB⟩ := hrel
                        have hl6_4 := (Kd.R_reads' HO_6.out).1
                        rw [hl6_4] at HO_6
                        (try simp only [hl6_4])
                        (try simp only [hl6_4] at BK264)
                        cases gk with
                        | zero => exact absurd HA.out (by simp [payrollref39_Combine.l2])
                        | succ k4 =>
                          have H := HA.out
                          clear HA
                          simp only [payrollref39_Combine.l2] at H
                          by_cases c41 : x9_4 > x8_7
                          · rw [if_pos c41] at H
                            have c41b0 : decide (x8_7 < x9_4) = true := decide_eq_true c41
                            clear c41
                            obtain ⟨ji42, hji42⟩ : ∃ j_ : Int, (wrap64 (x9_4 - 1)) = j_ := ⟨_, rfl⟩
                            replace H : (if 0 ≤ (ji42) then (if (ji42) < (x6_4.length : Int) then (if 0 ≤ x9_4 then (if x9_4 < (x6_4.length : Int) then (payrollref39_Combine.l2 k4 l0 (x6_4.set (x9_4 : Int).toNat (⟨(rd_T29 x6_4 (ji42)).f0, (rd_T29 x6_4 (ji42)).f1⟩ : S29)) x7_1 x8_7 ji42) else (none)) else (none)) else (none)) else (none)) = some (r1, r2) := by first | (rw [hji42] at H; exact H) | (simp only [hji42] at H ⊢; exact H)
                            have hji42w : (IntKind.i64.wrap (x9_4 - 1)) = ji42 := (i64_w _).trans hji42
                            by_cases c43 : 0 ≤ (ji42)
                            · rw [if_pos c43] at H
                              have c43b0 : decide (0 ≤ (ji42)) = true := decide_eq_true c43
                              clear c43
                              by_cases c44 : (ji42) < (x6_4.length : Int)
                              · rw [if_pos c44] at H
                                have c44b0 : decide ((ji42) < (x6_4.length : Int)) = true := decide_eq_true c44
                                clear c44
                                by_cases c45 : 0 ≤ x9_4
                                · rw [if_pos c45] at H
                                  have c45b0 : decide (0 ≤ x9_4) = true := decide_eq_true c45
                                  clear c45
                                  by_cases c46 : x9_4 < (x6_4.length : Int)
                                  · rw [if_pos c46] at H
                                    have c46b0 : decide (x9_4 < (x6_4.length : Int)) = true := decide_eq_true c46
                                    clear c46
                                    obtain ⟨y276, hy276⟩ : ∃ y_ : List (S29), y_ = (x6_4.set (x9_4 : Int).toNat (⟨(rd_T29 x6_4 (ji42)).f0, (rd_T29 x6_4 (ji42)).f1⟩ : S29)) := ⟨_, rfl⟩
                                    replace H : (payrollref39_Combine.l2 k4 l0 y276 x7_1 x8_7 ji42) = some (r1, r2) := by first | (rw [hy276]; with_reducible exact H) | (have H2_ := (Option.bind_some _ _).symm.trans H; rw [hy276]; with_reducible exact H2_) | (have H2_ := (Option.bind_some _ _).symm.trans H; with_reducible exact H2_) | with_reducible exact H | (rw [hy276]; exact H) | exact H
                                    have Ny276 := Aside0.mk hy276
                                    clear hy276
                                    have H' := Aside0.mk H
                                    clear H
                                    have p275 : 0 ≤ ((ji42) : Int) := of_decide_eq_true (by first | (with_reducible assumption) | assumption)
                                    have q275 : (ji42) < (x6_4.length : Int) := of_decide_eq_true (by first | (with_reducible assumption) | assumption)
                                    obtain ⟨ad275, e275, hx275_0, hx275_1⟩ := at_T29 (Kd.R_reads' HO_6.out).2.2 (ji42) p275 q275
                                    cases e275
                                    replace p275 := eq_true p275
                                    replace q275 := eq_true q275
                                    have p47 : 0 ≤ (x9_4 : Int) := of_decide_eq_true (by first | (with_reducible assumption) | assumption)
                                    have q47 : (x9_4 : Int) < ((x6_4.length : Int) : Int) := of_decide_eq_true (by first | (with_reducible assumption) | assumption)
                                    obtain ⟨go47, co47, eo47, gb47, gl47, cl47, HG47⟩ := Kd.R_form HO_6.out (by omega)
                                    (first | cases eo47 | (injection eo47 with ea_ en_ ec_; (first | subst ea_ | (injection ea_ with ea_; subst ea_)); subst ec_; clear en_))
                                    have GB47 := Aside0.mk gb47
                                    have GG47 := Aside0.mk HG47
                                    clear gb47 gl47 HG47
                                    (first | simp only [add_plain] at hx275_0 | skip)
                                    (first | simp only [add_plain] at hx275_1 | skip)
                                    obtain ⟨ce47, hcl47, hM47, hcc47, hfr47⟩ := Kd.R_elem HO_6.out z29 (x9_4 : Int) p47 q47
                                    obtain rfl := k29_openM hM47
                                    have hx47_0 : wr.cell? ⟨go47, (x9_4 : Int).toNat * 2, none⟩ = some (.int .i64 ((rd_T29 x6_4 x9_4).f0)) := hcc47 0 _ rfl
                                    have hx47_1 : wr.cell? ⟨go47, (x9_4 : Int).toNat * 2 + 1, none⟩ = some (.int .i64 ((rd_T29 x6_4 x9_4).f1)) := hcc47 1 _ rfl
                                    have hf47_0 : wr.frozen? ⟨go47, (x9_4 : Int).toNat * 2, none⟩ = false := hfr47 0
                                    have hf47_1 : wr.frozen? ⟨go47, (x9_4 : Int).toNat * 2 + 1, none⟩ = false := hfr47 1
                                    clear hcl47 hcc47 hfr47 hM47
                                    replace p47 := eq_true p47
                                    replace q47 := eq_true q47
                                    have HX48 := Aside0.mk (show Kd.R k29 29 wr w.heap.size (fun _ => True) (.slice (some ⟨go47, 0, none⟩) x6_4.length co40) x6_4 from (by (with_reducible repeat (first | apply Kd.R_alloc | apply Kd.R_drewN | apply Kd.R_drew)); exact HO_6.out))
                                    obtain ⟨ce48, hcl48, hM48, hcc48, hfr48⟩ := Kd.R_elem HX48.out z29 (x9_4 : Int) (of_decide_eq_true (by first | (with_reducible assumption) | assumption)) (by have h_ : (x9_4 : Int) < ((x6_4.length : Int) : Int) := of_decide_eq_true (by first | (with_reducible assumption) | assumption); first | exact h_ | (have e_ := (Kd.R_reads' HO_6.out).1; omega) | simpa using h_)
                                    obtain rfl := k29_openM hM48
                                    have HP48 := Kd.R_seg HX48.out (x9_4 : Int) (of_decide_eq_true (by first | (with_reducible assumption) | assumption)) (by have h_ : (x9_4 : Int) < ((x6_4.length : Int) : Int) := of_decide_eq_true (by first | (with_reducible assumption) | assumption); first | exact h_ | (have e_ := (Kd.R_reads' HO_6.out).1; omega) | simpa using h_) (seg := [.int .i64 ((rd_T29 x6_4 (ji42)).f0), .int .i64 ((rd_T29 x6_4 (ji42)).f1)]) (j := 0) hcl48 hcc48 (show 2 ≤ 2 from by decide) (x' := (⟨(rd_T29 x6_4 (ji42)).f0, (rd_T29 x6_4 (ji42)).f1⟩ : S29)) (k29_mkM _ _ _ (⟨(rd_T29 x6_4 (ji42)).f0, (rd_T29 x6_4 (ji42)).f1⟩ : S29) ) (fun _ hk => hk)
                                    have hx48_0 := hcc48 0 _ rfl
                                    (try simp only [show (k29).sz = 2 from rfl, Nat.mul_one, Nat.add_zero] at hx48_0)
                                    have hf48_0 := hfr48 0
                                    (try simp only [show (k29).sz = 2 from rfl, Nat.mul_one, Nat.add_zero] at hf48_0)
                                    have hx48_1 := hcc48 1 _ rfl
                                    (try simp only [show (k29).sz = 2 from rfl, Nat.mul_one, Nat.add_zero] at hx48_1)
                                    have hf48_1 := hfr48 1
                                    (try simp only [show (k29).sz = 2 from rfl, Nat.mul_one, Nat.add_zero] at hf48_1)
                                    clear hcl48 hcc48 hfr48 hM48
                                    go_wp2_with (first | ((with_reducible refine gate_store (t := 29) (p := 93) rfl ?_); refine store_event (t := 29) (p := 93) (v := ?vo_w49) (w1 := ((wr.setCell ⟨go47, (x9_4 : Int).toNat * 2, none⟩ (.int .i64 ((rd_T29 x6_4 (ji42)).f0))).setCell ⟨go47, (x9_4 : Int).toNat * 2 + 1, none⟩ (.int .i64 ((rd_T29 x6_4 (ji42)).f1)))) ?hg ?ho ?hn ?hr ?_; (case ho => rfl); (case hg => rfl); (case hn => rfl); (case hr => first | (go_simp; done) | (go_simp; rfl)); intro w49 hw; have hg : wr.grownBy w49 (some go47) := (by rw [hw]; exact HP48.2); have hp_ : Kd.R k29 29 w49 w.heap.size (fun _ => True) (.slice (some ⟨go47, 0, none⟩) x6_4.length co40) y276 := (by rw [hw, Ny276.out]; exact HP48.1); clear HP48; have n0_ := Aside0.mk (hp_); have n1_ := Aside0.mk (blk_grown (g := gb264) (o := .cells #[.int .i64 t260, .int .i64 t261, .int .i64 t262] 34 (0, 0)) (by (with_reducible repeat (first | refine blk_drewN ?_ _ | refine blk_drew ?_ | refine blk_alloc ?_ _)); exact BK264.out) hg (Kd.R_ne HO_6.out BK264.out (by decide))); have n2_ := Aside0.mk ((by rw [hw]; exact below_set (below_set (HB.out) GB47.out) GB47.out : Below w.heap.size w w49)); clear HO_6; clear BK264; clear HB; have HO_6 := n0_; have BK264 := n1_; have HB := n2_; clear n0_ n1_ n2_; clear hg hw hp_))
                                    (try simp only [← hl6_4])
                                    go_roundg k4
                                    case measure => have := HK1.out; have := HJ7.out; have := HJ19.out; have := HK4.out; omega
                                    case rel => exact ⟨(y276), (ji42), (by first | rfl | (simp; done) | (simp only [← hji42] <;> (first | rfl | simp)) | (simp [*]; done)), H', ⟨by have := HK1.out; have := HJ7.out; have := HJ19.out; have := HK4.out; omega⟩, ⟨by (try simp only [hl6_4]); (with_reducible repeat (first | apply Kd.R_alloc | apply Kd.R_drewN | apply Kd.R_drew)); exact HO_6.out⟩, ⟨by (try simp only [hl6_4]); (with_reducible repeat (first | refine blk_drewN ?_ _ | refine blk_drew ?_ | refine blk_alloc ?_ _)); exact BK264.out⟩, ⟨by repeat (first | (with_reducible first | exact HB.out | apply below_alloc | apply pw_below_drewN | apply below_drew1 | refine below_set ?_ GE264.out) | exact HB.out)⟩⟩
                                  · rw [if_neg c46] at H
                                    exact absurd H (by simp)
                                · rw [if_neg c45] at H
                                  exact absurd H (by simp)
                              · rw [if_neg c44] at H
                                exact absurd H (by simp)
                            · rw [if_neg c43] at H
                              exact absurd H (by simp)
                          · rw [if_neg c41] at H
                            have c41b0 : decide (x8_7 < x9_4) = false := decide_eq_false c41
                            clear c41
                            by_cases c50 : 0 ≤ x7_1
                            · rw [if_pos c50] at H
                              have c50b0 : decide (0 ≤ x7_1) = true := decide_eq_true c50
                              clear c50
                              by_cases c51 : x7_1 < (l0.length : Int)
                              · rw [if_pos c51] at H
                                have c51b0 : decide (x7_1 < (l0.length : Int)) = true := decide_eq_true c51
                                clear c51
                                by_cases c52 : 0 ≤ x8_7
                                · rw [if_pos c52] at H
                                  have c52b0 : decide (0 ≤ x8_7) = true := decide_eq_true c52
                                  clear c52
                                  by_cases c53 : x8_7 < (x6_4.length : Int)
                                  · rw [if_pos c53] at H
                                    have c53b0 : decide (x8_7 < (x6_4.length : Int)) = true := decide_eq_true c53
                                    clear c53
                                    obtain ⟨y278, hy278⟩ : ∃ y_ : List (S29), y_ = (x6_4.set (x8_7 : Int).toNat (⟨(rd_T29 l0 x7_1).f0, (rd_T29 l0 x7_1).f1⟩ : S29)) := ⟨_, rfl⟩
                                    replace H : (payrollref39_Combine.l0 k4 l0 y278 (wrap64 (x7_1 + 1))) = some (r1, r2) := by first | (rw [hy278]; with_reducible exact H) | (have H2_ := (Option.bind_some _ _).symm.trans H; rw [hy278]; with_reducible exact H2_) | (have H2_ := (Option.bind_some _ _).symm.trans H; with_reducible exact H2_) | with_reducible exact H | (rw [hy278]; exact H) | exact H
                                    have Ny278 := Aside0.mk hy278
                                    clear hy278
                                    have H' := Aside0.mk H
                                    clear H
                                    have p277 : 0 ≤ (x7_1 : Int) := of_decide_eq_true (by first | (with_reducible assumption) | assumption)
                                    have q277 : x7_1 < (l0.length : Int) := of_decide_eq_true (by first | (with_reducible assumption) | assumption)
                                    obtain ⟨ad277, e277, hx277_0, hx277_1⟩ := at_T29 HR0.out x7_1 p277 q277
                                    cases e277
                                    replace hx277_0 := (HB.out.cell (World.block_lt_of_cell? w _ hx277_0)).trans hx277_0
                                    replace hx277_1 := (HB.out.cell (World.block_lt_of_cell? w _ hx277_1)).trans hx277_1
                                    replace p277 := eq_true p277
                                    replace q277 := eq_true q277
                                    have p54 : 0 ≤ (x8_7 : Int) := of_decide_eq_true (by first | (with_reducible assumption) | assumption)
                                    have q54 : (x8_7 : Int) < ((x6_4.length : Int) : Int) := of_decide_eq_true (by first | (with_reducible assumption) | assumption)
                                    obtain ⟨go54, co54, eo54, gb54, gl54, cl54, HG54⟩ := Kd.R_form HO_6.out (by omega)
                                    (first | cases eo54 | (injection eo54 with ea_ en_ ec_; (first | subst ea_ | (injection ea_ with ea_; subst ea_)); subst ec_; clear en_))
                                    have GB54 := Aside0.mk gb54
                                    have GG54 := Aside0.mk HG54
                                    clear gb54 gl54 HG54
                                    obtain ⟨ce54, hcl54, hM54, hcc54, hfr54⟩ := Kd.R_elem HO_6.out z29 (x8_7 : Int) p54 q54
                                    obtain rfl := k29_openM hM54
                                    have hx54_0 : wr.cell? ⟨go54, (x8_7 : Int).toNat * 2, none⟩ = some (.int .i64 ((rd_T29 x6_4 x8_7).f0)) := hcc54 0 _ rfl
                                    have hx54_1 : wr.cell? ⟨go54, (x8_7 : Int).toNat * 2 + 1, none⟩ = some (.int .i64 ((rd_T29 x6_4 x8_7).f1)) := hcc54 1 _ rfl
                                    have hf54_0 : wr.frozen? ⟨go54, (x8_7 : Int).toNat * 2, none⟩ = false := hfr54 0
                                    have hf54_1 : wr.frozen? ⟨go54, (x8_7 : Int).toNat * 2 + 1, none⟩ = false := hfr54 1
                                    clear hcl54 hcc54 hfr54 hM54
                                    replace p54 := eq_true p54
                                    replace q54 := eq_true q54
                                    have HX55 := Aside0.mk (show Kd.R k29 29 wr w.heap.size (fun _ => True) (.slice (some ⟨go54, 0, none⟩) x6_4.length co40) x6_4 from (by (with_reducible repeat (first | apply Kd.R_alloc | apply Kd.R_drewN | apply Kd.R_drew)); exact HO_6.out))
                                    obtain ⟨ce55, hcl55, hM55, hcc55, hfr55⟩ := Kd.R_elem HX55.out z29 (x8_7 : Int) (of_decide_eq_true (by first | (with_reducible assumption) | assumption)) (by have h_ : (x8_7 : Int) < ((x6_4.length : Int) : Int) := of_decide_eq_true (by first | (with_reducible assumption) | assumption); first | exact h_ | (have e_ := (Kd.R_reads' HO_6.out).1; omega) | simpa using h_)
                                    obtain rfl := k29_openM hM55
                                    have HP55 := Kd.R_seg HX55.out (x8_7 : Int) (of_decide_eq_true (by first | (with_reducible assumption) | assumption)) (by have h_ : (x8_7 : Int) < ((x6_4.length : Int) : Int) := of_decide_eq_true (by first | (with_reducible assumption) | assumption); first | exact h_ | (have e_ := (Kd.R_reads' HO_6.out).1; omega) | simpa using h_) (seg := [.int .i64 ((rd_T29 l0 x7_1).f0), .int .i64 ((rd_T29 l0 x7_1).f1)]) (j := 0) hcl55 hcc55 (show 2 ≤ 2 from by decide) (x' := (⟨(rd_T29 l0 x7_1).f0, (rd_T29 l0 x7_1).f1⟩ : S29)) (k29_mkM _ _ _ (⟨(rd_T29 l0 x7_1).f0, (rd_T29 l0 x7_1).f1⟩ : S29) ) (fun _ hk => hk)
                                    have hx55_0 := hcc55 0 _ rfl
                                    (try simp only [show (k29).sz = 2 from rfl, Nat.mul_one, Nat.add_zero] at hx55_0)
                                    have hf55_0 := hfr55 0
                                    (try simp only [show (k29).sz = 2 from rfl, Nat.mul_one, Nat.add_zero] at hf55_0)
                                    have hx55_1 := hcc55 1 _ rfl
                                    (try simp only [show (k29).sz = 2 from rfl, Nat.mul_one, Nat.add_zero] at hx55_1)
                                    have hf55_1 := hfr55 1
                                    (try simp only [show (k29).sz = 2 from rfl, Nat.mul_one, Nat.add_zero] at hf55_1)
                                    clear hcl55 hcc55 hfr55 hM55
                                    go_wp2_with (first | ((with_reducible refine gate_store (t := 29) (p := 100) rfl ?_); refine store_event (t := 29) (p := 100) (v := ?vo_w56) (w1 := ((wr.setCell ⟨go54, (x8_7 : Int).toNat * 2, none⟩ (.int .i64 ((rd_T29 l0 x7_1).f0))).setCell ⟨go54, (x8_7 : Int).toNat * 2 + 1, none⟩ (.int .i64 ((rd_T29 l0 x7_1).f1)))) ?hg ?ho ?hn ?hr ?_; (case ho => rfl); (case hg => rfl); (case hn => rfl); (case hr => first | (go_simp; done) | (go_simp; rfl)); intro w56 hw; have hg : wr.grownBy w56 (some go54) := (by rw [hw]; exact HP55.2); have hp_ : Kd.R k29 29 w56 w.heap.size (fun _ => True) (.slice (some ⟨go54, 0, none⟩) x6_4.length co40) y278 := (by rw [hw, Ny278.out]; exact HP55.1); clear HP55; have n0_ := Aside0.mk (hp_); have n1_ := Aside0.mk (blk_grown (g := gb264) (o := .cells #[.int .i64 t260, .int .i64 t261, .int .i64 t262] 34 (0, 0)) (by (with_reducible repeat (first | refine blk_drewN ?_ _ | refine blk_drew ?_ | refine blk_alloc ?_ _)); exact BK264.out) hg (Kd.R_ne HO_6.out BK264.out (by decide))); have n2_ := Aside0.mk ((by rw [hw]; exact below_set (below_set (HB.out) GB54.out) GB54.out : Below w.heap.size w w56)); clear HO_6; clear BK264; clear HB; have HO_6 := n0_; have BK264 := n1_; have HB := n2_; clear n0_ n1_ n2_; clear hg hw hp_))
                                    (try simp only [← hl6_4])
                                    go_roundg k4
                                    case measure => have := HK1.out; have := HJ7.out; have := HJ19.out; have := HK4.out; omega
                                    case rel => exact ⟨(y278), (wrap64 (x7_1 + 1)), (by first | rfl | (simp; done) | (simp [*]; done)), H', ⟨by have := HK1.out; have := HJ7.out; have := HJ19.out; have := HK4.out; omega⟩, ⟨by (try simp only [hl6_4]); (with_reducible repeat (first | apply Kd.R_alloc | apply Kd.R_drewN | apply Kd.R_drew)); exact HO_6.out⟩, ⟨by (try simp only [hl6_4]); (with_reducible repeat (first | refine blk_drewN ?_ _ | refine blk_drew ?_ | refine blk_alloc ?_ _)); exact BK264.out⟩, ⟨by repeat (first | (with_reducible first | exact HB.out | apply below_alloc | apply pw_below_drewN | apply below_drew1 | refine below_set ?_ GE264.out) | exact HB.out)⟩⟩
                                  · rw [if_neg c53] at H
                                    exact absurd H (by simp)
                                · rw [if_neg c52] at H
                                  exact absurd H (by simp)
                              · rw [if_neg c51] at H
                                exact absurd H (by simp)
                            · rw [if_neg c50] at H
                              exact absurd H (by simp)
                    · rw [if_neg c38] at H
                      exact absurd H (by simp)
        · rw [if_neg c7] at H
          have c7b0 : decide (x7_1 < (l0.length : Int)) = false := decide_eq_false c7
          clear c7
          have H' := Aside0.mk H
          clear H
          go_wp2
          go_loopg [10] k1 (fun kq v10 w' => ∃ (x10_2 : Int), v10 = .int .i64 x10_2 ∧ Aside0 (payrollref39_Combine.l3 kq x6_1 x10_2 = some (r1, r2)) ∧ Aside0 (kq ≤ k1) ∧ Aside0 (Kd.R k29 29 w' w.heap.size (fun _ => True) u6 x6_1) ∧ Aside0 (w'.heap[gb264]? = some (.cells #[.int .i64 t260, .int .i64 t261, .int .i64 t262] 34 (0, 0))) ∧ Aside0 (Below w.heap.size w w'))
          case atStart => exact ⟨(0), (by first | rfl | (simp; done) | (simp [*]; done)), H', ⟨Nat.le_refl _⟩, ⟨by (with_reducible repeat (first | apply Kd.R_alloc | apply Kd.R_drewN | apply Kd.R_drew)); exact HO_6.out⟩, ⟨by (with_reducible repeat (first | refine blk_drewN ?_ _ | refine blk_drew ?_ | refine blk_alloc ?_ _)); exact BK264.out⟩, ⟨by repeat (first | (with_reducible first | exact HB.out | apply below_alloc | apply pw_below_drewN | apply below_drew1 | refine below_set ?_ GE264.out) | exact HB.out)⟩⟩
          case round =>
            clear H'
            try clear c1
            try clear c2
            try clear p2
            try clear q2
            try clear hx2
            try clear c3
            try clear c3b0
            try clear c3b1
            try clear p3
            try clear q3
            try clear hx3
            try clear hf3
            try clear c4
            try clear p4
            try clear q4
            try clear hx4
            try clear hf4
            try clear c5
            try clear p5
            try clear q5
            try clear hx5
            try clear hf5
            try clear p6
            try clear c7
            try clear c7b0
            try clear c9
            try clear c9b0
            try clear c10
            try clear c10b0
            try clear c11
            try clear c11b0
            try clear c12
            try clear c12b0
            try clear c13
            try clear c13b0
            try clear c21
            try clear c21b0
            try clear c22
            try clear c22b0
            try clear c23
            try clear c23b0
            try clear c24
            try clear c24b0
            try clear p26
            try clear q26
            try clear hx26
            try clear p27
            try clear q27
            try clear hx27
            try clear c29
            try clear c30
            try clear c30b0
            try clear c31
            try clear c31b0
            try clear c32
            try clear c32b0
            try clear c33
            try clear c33b0
            try clear c34
            try clear p34
            try clear q34
            try clear hx34
            try clear hf34
            try clear c37
            try clear c38
            try clear c41
            try clear c41b0
            try clear c43
            try clear c43b0
            try clear c44
            try clear c44b0
            try clear c45
            try clear c45b0
            try clear c46
            try clear c46b0
            try clear c47
            try clear p47
            try clear q47
            try clear hx47
            try clear hf47
            try clear c48
            try clear hx48
            try clear hf48
            try clear c50
            try clear c50b0
            try clear c51
            try clear c51b0
            try clear c52
            try clear c52b0
            try clear c53
            try clear c53b0
            try clear c54
            try clear p54
            try clear q54
            try clear hx54
            try clear hf54
            try clear c55
            try clear hx55
            try clear hf55
            try clear hcz6_0
            try clear hcz6_1
            try clear hcz6_2
            try clear hfz6_0
            try clear hfz6_1
            try clear hfz6_2
            try clear hx265_0
            try clear hx265_1
            try clear hx266_0
            try clear hx266_1
            try clear hx267_0
            try clear hx267_1
            try clear hx268_0
            try clear hx268_1
            try clear hx269_0
            try clear hx269_1
            try clear hx270_0
            try clear hx270_1
            try clear hx275_0
            try clear hx275_1
            try clear hx277_0
            try clear hx277_1
            try clear hx34_0
            try clear hx34_1
            try clear hx47_0
            try clear hx47_1
            try clear hx48_0
            try clear hx48_1
            try clear hx54_0
            try clear hx54_1
            try clear hx55_0
            try clear hx55_1
            try clear p2
            try clear p26
            try clear p265
            try clear p266
            try clear p267
            try clear p268
            try clear p269
            try clear p27
            try clear p270
            try clear p275
            try clear p277
            try clear p3
            try clear p34
            try clear p47
            try clear p54
            try clear p6
            try clear q2
            try clear q26
            try clear q265
            try clear q266
            try clear q267
            try clear q268
            try clear q269
            try clear q27
            try clear q270
            try clear q275
            try clear q277
            try clear q3
            try clear q34
            try clear q47
            try clear q54
            obtain ⟨x10_2, rfl, HA, HK2, HO_6, BK264, HB⟩ := hrel
            cases gk with
            | zero => exact absurd HA.out (by simp [payrollref39_Combine.l3])
            | succ k2 =>
              have H := HA.out
              clear HA
              simp only [payrollref39_Combine.l3] at H
              by_cases c57 : x10_2 < (x6_1.length : Int)
              · rw [if_pos c57] at H
                have c57b0 : decide (x10_2 < (x6_1.length : Int)) = true := decide_eq_true c57
                clear c57
                by_cases c58 : 0 ≤ x10_2
                · rw [if_pos c58] at H
                  have c58b0 : decide (0 ≤ x10_2) = true := decide_eq_true c58
                  clear c58
                  by_cases c59 : ((rd_T29 x6_1 x10_2).f1) > 1000000000000
                  · rw [if_pos c59] at H
                    have c59b0 : decide (1000000000000 < ((rd_T29 x6_1 x10_2).f1)) = true := decide_eq_true c59
                    clear c59
                    simp only [Option.some.injEq, Prod.mk.injEq] at H
                    obtain ⟨rfl, rfl⟩ := H
                    obtain ⟨Ao60, co60, eo60⟩ := Kd.R_slice HO_6.out
                    subst eo60
                    have p279 : 0 ≤ (x10_2 : Int) := of_decide_eq_true (by first | (with_reducible assumption) | assumption)
                    have q279 : x10_2 < (x6_1.length : Int) := of_decide_eq_true (by first | (with_reducible assumption) | assumption)
                    obtain ⟨ad279, e279, hx279_0, hx279_1⟩ := at_T29 (Kd.R_reads' HO_6.out).2.2 x10_2 p279 q279
                    cases e279
                    replace p279 := eq_true p279
                    replace q279 := eq_true q279
                    go_wp2
                    go_ret2
                    exact ⟨_, by first | rfl | (simp [errW_none, errW_some] <;> rfl) | (simp [*, errW_none, errW_some] <;> rfl), by first | exact Kd.R_nil _ _ _ _ _ | exact Kd.N_nil _ _ _ _ _ | exact Kd.V_nil _ _ _ _ _ | exact Kd.Q_nil _ _ _ _ _ | exact Kd.S_nil _ _ _ _ _, by repeat (first | (with_reducible first | exact HB.out | apply below_alloc | apply pw_below_drewN | apply below_drew1 | refine below_set ?_ GE264.out) | exact HB.out)⟩
                  · rw [if_neg c59] at H
                    have c59b0 : decide (1000000000000 < ((rd_T29 x6_1 x10_2).f1)) = false := decide_eq_false c59
                    clear c59
                    have H' := Aside0.mk H
                    clear H
                    obtain ⟨Ao61, co61, eo61⟩ := Kd.R_slice HO_6.out
                    subst eo61
                    have p279 : 0 ≤ (x10_2 : Int) := of_decide_eq_true (by first | (with_reducible assumption) | assumption)
                    have q279 : x10_2 < (x6_1.length : Int) := of_decide_eq_true (by first | (with_reducible assumption) | assumption)
                    obtain ⟨ad279, e279, hx279_0, hx279_1⟩ := at_T29 (Kd.R_reads' HO_6.out).2.2 x10_2 p279 q279
                    cases e279
                    replace p279 := eq_true p279
                    replace q279 := eq_true q279
                    go_wp2
                    go_roundg k2
                    case measure => have := HK1.out; have := HK2.out; omega
                    case rel => exact ⟨(wrap64 (x10_2 + 1)), (by first | rfl | (simp; done) | (simp [*]; done)), H', ⟨by have := HK1.out; have := HK2.out; omega⟩, ⟨by (with_reducible repeat (first | apply Kd.R_alloc | apply Kd.R_drewN | apply Kd.R_drew)); exact HO_6.out⟩, ⟨by (with_reducible repeat (first | refine blk_drewN ?_ _ | refine blk_drew ?_ | refine blk_alloc ?_ _)); exact BK264.out⟩, ⟨by repeat (first | (with_reducible first | exact HB.out | apply below_alloc | apply pw_below_drewN | apply below_drew1 | refine below_set ?_ GE264.out) | exact HB.out)⟩⟩
                · rw [if_neg c58] at H
                  exact absurd H (by simp)
              · rw [if_neg c57] at H
                have c57b0 : decide (x10_2 < (x6_1.length : Int)) = false := decide_eq_false c57
                clear c57
                simp only [Option.some.injEq, Prod.mk.injEq] at H
                obtain ⟨rfl, rfl⟩ := H
                obtain ⟨Ao62, co62, eo62⟩ := Kd.R_slice HO_6.out
                subst eo62
                go_wp2
                go_ret2
                exact ⟨_, by first | rfl | (simp [errW_none, errW_some] <;> rfl) | (simp [*, errW_none, errW_some] <;> rfl), by (with_reducible repeat (first | apply Kd.R_alloc | apply Kd.R_drewN | apply Kd.R_drew)); exact HO_6.out, by repeat (first | (with_reducible first | exact HB.out | apply below_alloc | apply pw_below_drewN | apply below_drew1 | refine below_set ?_ GE264.out) | exact HB.out)⟩
  · rw [if_neg c3] at H
    have c3b0 : (t263 == 0) = false := beq_eq_false_iff_ne.mpr c3
    have c3b1 : (t263 != 0) = true := bne_iff_ne.mpr c3
    simp only [Option.some.injEq, Prod.mk.injEq] at H
    obtain ⟨rfl, rfl⟩ := H
    go_enter Try.func20, Try.ntmps20
    go_wp2_with (first | ((with_reducible refine gate_callee (f := 24) rfl ?_); refine goesL_ (some 13) rfl rfl Try.func24 (by kernel_rfl) rfl #[.slice A0 l0.length c0] rfl (by (try simp only [List.map_toArray, List.map_cons, List.map_nil]); first | done | rfl | (simp only [List.length_drop, List.length_take]; rfl)) ?_; (with_reducible refine (payrollref39_Of.calls k _ _ l0 t260 t261 t262 t263 _ ?side1 ?side2 A2.out).mono ?_); (case side1 => repeat (first | exact HR0.out | (with_reducible refine Kd.C_alloc ?_ _) | (with_reducible refine Kd.C_drewN ?_ _) | (with_reducible refine Kd.C_drew ?_))); (case side2 => exact HC0.out); rintro e w63 ⟨rfl, hb⟩; refine ⟨_, rfl, ?_⟩; have n0_ := Aside0.mk (below_step (by repeat (first | (with_reducible first | exact HB.out | apply below_alloc | apply pw_below_drewN | apply below_drew1) | exact HB.out)) hb); clear HB; have HB := n0_; clear n0_; (try clear hb); (try clear hb2); (try clear hk); (try clear hi)) | ((with_reducible refine gate_dst (N := 4) rfl ?_); refine box_event ?hg (N := 4) ?hd (cs := #[.int .i64 0, .int .i64 0, .int .i64 0]) (t := 34) ?hr ?_; (case hd => rfl); (case hg => rfl); (case hr => first | (go_simp; done) | (go_simp; rfl)); intro gb264 hg w64 hbox hb; have n0_ := Aside0.mk (below_step (by repeat (first | (with_reducible first | exact HB.out | apply below_alloc | apply pw_below_drewN | apply below_drew1) | exact HB.out)) hb); have n1_ := Aside0.mk (hbox); have n2_ := Aside0.mk ((by rw [hg]; exact (below_size (by repeat (first | (with_reducible first | exact HB.out | apply below_alloc | apply pw_below_drewN | apply below_drew1) | exact HB.out))) : w.heap.size ≤ gb264)); have n3_ := Aside0.mk ((by rw [hg]; exact (below_size (by repeat (first | (with_reducible first | exact HB.out | apply below_alloc | apply pw_below_drewN | apply below_drew1) | exact HB.out))) : w.heap.size ≤ gb264)); clear HB; have HB := n0_; have BK264 := n1_; have GW264 := n2_; have GE264 := n3_; clear n0_ n1_ n2_ n3_; clear hb hbox hg; have hcz65_0 : w64.cell? ⟨gb264, 0, none⟩ = some (.int .i64 0) := (blk_cell BK264.out 0).trans rfl; have hcz65_1 : w64.cell? ⟨gb264, 1, none⟩ = some (.int .i64 0) := (blk_cell BK264.out 1).trans rfl; have hcz65_2 : w64.cell? ⟨gb264, 2, none⟩ = some (.int .i64 0) := (blk_cell BK264.out 2).trans rfl; have hfz65_0 := blk_frozen BK264.out 0; have hfz65_1 := blk_frozen BK264.out 1; have hfz65_2 := blk_frozen BK264.out 2))
    go_ret2
    exact ⟨_, by first | rfl | (simp [errW_none, errW_some] <;> rfl) | (simp [*, errW_none, errW_some] <;> rfl), by first | exact Kd.R_nil _ _ _ _ _ | exact Kd.N_nil _ _ _ _ _ | exact Kd.V_nil _ _ _ _ _ | exact Kd.Q_nil _ _ _ _ _ | exact Kd.S_nil _ _ _ _ _, by repeat (first | (with_reducible first | exact HB.out | apply below_alloc | apply pw_below_drewN | apply below_drew1 | refine below_set ?_ GE264.out) | exact HB.out)⟩

end Go.Proofs.Ytdmcffabkeodpaa.Q
