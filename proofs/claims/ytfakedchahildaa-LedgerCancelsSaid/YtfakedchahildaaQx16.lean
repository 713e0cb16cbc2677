-- Printed by wip/xprint.py over the translation, with contracts proved by hand among them. Lean checks it.
import Derived.Test.YtfakedchahildaaQx0
import Derived.Test.YtfakedchahildaaQx13
namespace Go.Proofs.Ytfakedchahildaa.Q
open Go.RowKit Go.Proofs.YtfakedchahildaaW.PrintWords Go.Proofs.YtfakedchahildaaW.PrintLast Go.Proofs.YtfakedchahildaaW.PrintMore
attribute [local go_sem] max2_int min2_int max_two min_two max_three min_three max_four min_four   -- for this text's walks alone
set_option linter.unusedVariables false
set_option linter.unusedSimpArgs false

/-! ### payrollref35_Undo: function 26 -/
mutual
def payrollref35_Undo.j0 : Nat → List (S28) → Int → Int → Bool → Option ((List (S28)) × Int)
  | 0, _, _, _, _ => none
  | k + 1, x0, x1, x2, x21 => if x21 = true then (some (([] : List (S28)), 1)) else (payrollref35_Undo.l0 k x0 x1 x2 ([] : List (S28)) 0)
def payrollref35_Undo.l0 : Nat → List (S28) → Int → Int → List (S28) → Int → Option ((List (S28)) × Int)
  | 0, _, _, _, _, _ => none
  | k + 1, x0, x1, x2, x8, x9 => if x9 < (x0.length : Int) then (if 0 ≤ x9 then (if ((rd_T28 x0 x9).f0) = x1 then (if x8.length < 2513169434916 then (payrollref35_Undo.l0 k x0 x1 x2 (x8 ++ [(⟨x2, (rd_T28 x0 x9).f1, (rd_T28 x0 x9).f2, (⟨(rd_T28 x0 x9).f3.f0, (rd_T28 x0 x9).f3.f1, wrap64 (-((rd_T28 x0 x9).f3.f2))⟩ : S26)⟩ : S28)]) (wrap64 (x9 + 1))) else (none)) else (payrollref35_Undo.l0 k x0 x1 x2 x8 (wrap64 (x9 + 1)))) else (none)) else (if (x8.length : Int) = 0 then (some (([] : List (S28)), 16)) else (if 0 ≤ (wrap64 ((x0.length : Int) - 1)) then (if (wrap64 ((x0.length : Int) - 1)) < (x0.length : Int) then (if ((rd_T28 x0 (wrap64 ((x0.length : Int) - 1))).f0) ≥ x2 then (some (([] : List (S28)), 15)) else (some (x8, 0))) else (none)) else (none)))
end
def payrollref35_Undo.f (k : Nat) (l0 : List (S28)) (a1 : Int) (a2 : Int) : Option ((List (S28)) × Int) := (payrollref35_Book.f k l0).bind fun t351 => (if t351 = true then (if a2 < 1 then (payrollref35_Undo.j0 k l0 a1 a2 true) else (payrollref35_Undo.j0 k l0 a1 a2 (decide (a2 > 256)))) else (payrollref35_Undo.j0 k l0 a1 a2 true))
theorem payrollref35_Undo.mono_l : ∀ k, (∀ y0 y1 y2 y3, LeO (payrollref35_Undo.j0 k y0 y1 y2 y3) (payrollref35_Undo.j0 (k + 1) y0 y1 y2 y3)) ∧ (∀ y0 y1 y2 y3 y4, LeO (payrollref35_Undo.l0 k y0 y1 y2 y3 y4) (payrollref35_Undo.l0 (k + 1) y0 y1 y2 y3 y4))
  | 0 => ⟨fun _ _ _ _ r h => by simp [payrollref35_Undo.j0] at h, fun _ _ _ _ _ r h => by simp [payrollref35_Undo.l0] at h⟩
  | k + 1 => by
    obtain ⟨ih0, ih1⟩ := payrollref35_Undo.mono_l k
    refine ⟨?_, ?_⟩
    · intro y0 y1 y2 y3
      unfold payrollref35_Undo.j0
      repeat' first
      | (with_reducible exact ih0 _ _ _ _)
      | (with_reducible exact ih1 _ _ _ _ _)
      | (with_reducible exact payrollref35_Book.mono _ _)
      | (with_reducible exact LeO.refl _)
      | (with_reducible exact LeO.none _)
      | (with_reducible refine LeO.ite ?_ ?_)
      | (with_reducible refine LeO.bind ?_ (fun _ => ?_))
      | exact ih0 _ _ _ _
      | exact ih1 _ _ _ _ _
      | exact payrollref35_Book.mono _ _
      | exact LeO.none _
      | refine LeO.ite ?_ ?_
      | refine LeO.bind ?_ (fun _ => ?_)
    · intro y0 y1 y2 y3 y4
      unfold payrollref35_Undo.l0
      repeat' first
      | (with_reducible exact ih0 _ _ _ _)
      | (with_reducible exact ih1 _ _ _ _ _)
      | (with_reducible exact payrollref35_Book.mono _ _)
      | (with_reducible exact LeO.refl _)
      | (with_reducible exact LeO.none _)
      | (with_reducible refine LeO.ite ?_ ?_)
      | (with_reducible refine LeO.bind ?_ (fun _ => ?_))
      | exact ih0 _ _ _ _
      | exact ih1 _ _ _ _ _
      | exact payrollref35_Book.mono _ _
      | exact LeO.none _
      | refine LeO.ite ?_ ?_
      | refine LeO.bind ?_ (fun _ => ?_)
theorem payrollref35_Undo.mono : ∀ a0 a1 a2 k, LeO (payrollref35_Undo.f k a0 a1 a2) (payrollref35_Undo.f (k + 1) a0 a1 a2) := by
  intro a0 a1 a2 k
  obtain ⟨ih0, ih1⟩ := payrollref35_Undo.mono_l k
  unfold payrollref35_Undo.f
  repeat' first
      | (with_reducible exact ih0 _ _ _ _)
      | (with_reducible exact ih1 _ _ _ _ _)
      | (with_reducible exact payrollref35_Book.mono _ _)
      | (with_reducible exact LeO.refl _)
      | (with_reducible exact LeO.none _)
      | (with_reducible refine LeO.ite ?_ ?_)
      | (with_reducible refine LeO.bind ?_ (fun _ => ?_))
      | exact ih0 _ _ _ _
      | exact ih1 _ _ _ _ _
      | exact payrollref35_Book.mono _ _
      | exact LeO.none _
      | refine LeO.ite ?_ ?_
      | refine LeO.bind ?_ (fun _ => ?_)
theorem payrollref35_Undo.isSome_set (w : World) (p : Addr) (v : Value) (q : Addr) : ((w.setCell p v).cell? q).isSome = (w.cell? q).isSome := by
  by_cases h : p = q
  · subst h
    cases hc : w.cell? p with
    | some u => rw [World.cell?_setCell_same _ _ _ hc]; rfl
    | none =>
      unfold World.cell? at hc
      simp only [World.setCell, World.cell?, Array.getElem?_modify, ↓reduceIte]
      cases hh : w.heap[p.block]? with
      | none => simp
      | some x =>
        rw [hh] at hc
        cases x <;> simp_all
  · rw [World.cell?_setCell_other _ _ _ _ h]
set_option maxHeartbeats 8000000 in
set_option maxRecDepth 100000 in
theorem payrollref35_Undo.calls (k : Nat) (A0 : Option Addr) (c0 : Nat) (l0 : List (S28)) (a1 : Int) (a2 : Int) (r1 : List (S28)) (r2 : Int) (w : World) (hr0 : Kd.C k28 w A0 l0.length l0) (hc0 : l0.length ≤ c0) (h : payrollref35_Undo.f k l0 a1 a2 = some (r1, r2)) :
    Calls Try.prog 26 #[.slice A0 l0.length c0, .int .i64 a1, .int .i64 a2] w fun e w' => ∃ v0_ : Value, e = .returned (.tuple #[v0_, .int .i64 r2]) ∧ Kd.R k28 28 w' w.heap.size (fun _ => True) v0_ r1 ∧ Below w.heap.size w w' := by
  have hu28 := Try.underlying28
  have HR0 := Aside0.mk hr0
  have HC0 := Aside0.mk hc0
  clear hr0 hc0
  have HB := Aside0.mk (Below.refl w.heap.size w)
  have H : ((payrollref35_Book.f k l0).bind fun t351 => (if t351 = true then (if a2 < 1 then (payrollref35_Undo.j0 k l0 a1 a2 true) else (payrollref35_Undo.j0 k l0 a1 a2 (decide (a2 > 256)))) else (payrollref35_Undo.j0 k l0 a1 a2 true))) = some (r1, r2) := h
  clear h
  have HC4 := Aside0.mk H
  clear H
  go_enter Try.func26, Try.ntmps26
  go_upto_region 1 with (fail)
  go_cut [21] (fun v21 wc => ∃ (kq : Nat) (x21_3 : Bool), v21 = .bool x21_3 ∧ Aside0 (payrollref35_Undo.j0 kq l0 a1 a2 x21_3 = some (r1, r2)) ∧ Aside0 (kq ≤ k) ∧ Aside0 (Below w.heap.size w wc))
  case first =>
    have H := HC4.out
    clear HC4
    replace H := Option.bind_eq_some_iff.mp H
    obtain ⟨t351, A50, H⟩ := H
    replace H : (if t351 = true then (if a2 < 1 then (payrollref35_Undo.j0 k l0 a1 a2 true) else (payrollref35_Undo.j0 k l0 a1 a2 (decide (a2 > 256)))) else (payrollref35_Undo.j0 k l0 a1 a2 true)) = some (r1, r2) := H
    have A5 := Aside0.mk A50
    clear A50
    by_cases c6 : t351 = true
    · subst c6
      have H1 : (if a2 < 1 then (payrollref35_Undo.j0 k l0 a1 a2 true) else (payrollref35_Undo.j0 k l0 a1 a2 (decide (a2 > 256)))) = some (r1, r2) := by rw [if_pos rfl] at H; exact H
      clear H
      have H := H1
      clear H1
      by_cases c7 : a2 < 1
      · rw [if_pos c7] at H
        have c7b0 : decide (a2 < 1) = true := decide_eq_true c7
        clear c7
        (first | rw [c7b0] | (simp only [i64_w, i32_w]; rw [c7b0]) | skip)
        have H' := Aside0.mk H
        clear H
        go_wp2_with (first | ((with_reducible refine gate_callee (f := 38) rfl ?_); refine goesL_ (some 12) rfl rfl Try.func38 (by kernel_rfl) rfl #[.slice A0 l0.length c0] rfl (by (try simp only [List.map_toArray, List.map_cons, List.map_nil]); first | done | rfl | (simp only [List.length_drop, List.length_take]; rfl)) ?_; (with_reducible refine (payrollref35_Book.calls k _ _ l0 true _ ?side1 ?side2 A5.out).mono ?_); (case side1 => repeat (first | exact (Kd.C_below HR0.out HB.out) | (with_reducible refine Kd.C_alloc ?_ _) | (with_reducible refine Kd.C_drewN ?_ _) | (with_reducible refine Kd.C_drew ?_))); (case side2 => exact HC0.out); rintro e w8 ⟨rfl, hb⟩; refine ⟨_, rfl, ?_⟩; have n0_ := Aside0.mk (below_step (by repeat (first | (with_reducible first | exact HB.out | apply below_alloc | apply pw_below_drewN | apply below_drew1) | exact HB.out)) hb); clear HB; have HB := n0_; clear n0_; (try clear hb); (try clear hb2); (try clear hk); (try clear hi)))
        go_meet
        case rel => exact ⟨_, (true), (by first | rfl | (simp; done) | (simp [*]; done)), H', ⟨by first | omega | exact Nat.le_refl _⟩, ⟨by repeat (first | (with_reducible first | exact HB.out | apply below_alloc | apply pw_below_drewN | apply below_drew1) | exact HB.out)⟩⟩
      · rw [if_neg c7] at H
        have c7b0 : decide (a2 < 1) = false := decide_eq_false c7
        clear c7
        (first | rw [c7b0] | (simp only [i64_w, i32_w]; rw [c7b0]) | skip)
        have H' := Aside0.mk H
        clear H
        go_wp2_with (first | ((with_reducible refine gate_callee (f := 38) rfl ?_); refine goesL_ (some 12) rfl rfl Try.func38 (by kernel_rfl) rfl #[.slice A0 l0.length c0] rfl (by (try simp only [List.map_toArray, List.map_cons, List.map_nil]); first | done | rfl | (simp only [List.length_drop, List.length_take]; rfl)) ?_; (with_reducible refine (payrollref35_Book.calls k _ _ l0 true _ ?side1 ?side2 A5.out).mono ?_); (case side1 => repeat (first | exact (Kd.C_below HR0.out HB.out) | (with_reducible refine Kd.C_alloc ?_ _) | (with_reducible refine Kd.C_drewN ?_ _) | (with_reducible refine Kd.C_drew ?_))); (case side2 => exact HC0.out); rintro e w9 ⟨rfl, hb⟩; refine ⟨_, rfl, ?_⟩; have n0_ := Aside0.mk (below_step (by repeat (first | (with_reducible first | exact HB.out | apply below_alloc | apply pw_below_drewN | apply below_drew1) | exact HB.out)) hb); clear HB; have HB := n0_; clear n0_; (try clear hb); (try clear hb2); (try clear hk); (try clear hi)))
        go_meet
        case rel => exact ⟨_, (decide (a2 > 256)), (by first | rfl | (simp; done) | (simp [*]; done)), H', ⟨by first | omega | exact Nat.le_refl _⟩, ⟨by repeat (first | (with_reducible first | exact HB.out | apply below_alloc | apply pw_below_drewN | apply below_drew1) | exact HB.out)⟩⟩
    · replace c6 := Bool.eq_false_iff.mpr c6
      subst c6
      have H1 : (payrollref35_Undo.j0 k l0 a1 a2 true) = some (r1, r2) := by rw [if_neg (show ¬ (false = true) by decide)] at H; exact H
      clear H
      have H := H1
      clear H1
      have H' := Aside0.mk H
      clear H
      go_wp2_with (first | ((with_reducible refine gate_callee (f := 38) rfl ?_); refine goesL_ (some 12) rfl rfl Try.func38 (by kernel_rfl) rfl #[.slice A0 l0.length c0] rfl (by (try simp only [List.map_toArray, List.map_cons, List.map_nil]); first | done | rfl | (simp only [List.length_drop, List.length_take]; rfl)) ?_; (with_reducible refine (payrollref35_Book.calls k _ _ l0 false _ ?side1 ?side2 A5.out).mono ?_); (case side1 => repeat (first | exact (Kd.C_below HR0.out HB.out) | (with_reducible refine Kd.C_alloc ?_ _) | (with_reducible refine Kd.C_drewN ?_ _) | (with_reducible refine Kd.C_drew ?_))); (case side2 => exact HC0.out); rintro e w10 ⟨rfl, hb⟩; refine ⟨_, rfl, ?_⟩; have n0_ := Aside0.mk (below_step (by repeat (first | (with_reducible first | exact HB.out | apply below_alloc | apply pw_below_drewN | apply below_drew1) | exact HB.out)) hb); clear HB; have HB := n0_; clear n0_; (try clear hb); (try clear hb2); (try clear hk); (try clear hi)))
      go_meet
      case rel => exact ⟨_, (true), (by first | rfl | (simp; done) | (simp [*]; done)), H', ⟨by first | omega | exact Nat.le_refl _⟩, ⟨by repeat (first | (with_reducible first | exact HB.out | apply below_alloc | apply pw_below_drewN | apply below_drew1) | exact HB.out)⟩⟩
  case rest =>
    clear HC4
    try clear c2
    try clear p2
    try clear c3
    try clear c6
    try clear c7
    try clear c7b0
    obtain ⟨kq, x21_3, rfl, HA, HJ3, HB⟩ := hcut
    cases kq with
    | zero => exact absurd HA.out (by simp [payrollref35_Undo.j0])
    | succ kj3 =>
      have H := HA.out
      clear HA
      simp only [payrollref35_Undo.j0] at H
      by_cases c11 : x21_3 = true
      · subst c11
        have H1 : (some (([] : List (S28)), 1)) = some (r1, r2) := by rw [if_pos rfl] at H; exact H
        clear H
        have H := H1
        clear H1
        simp only [Option.some.injEq, Prod.mk.injEq] at H
        obtain ⟨rfl, rfl⟩ := H
        go_wp2
        go_ret2
        exact ⟨_, by first | rfl | (simp [errW_none, errW_some] <;> rfl) | (simp [*, errW_none, errW_some] <;> rfl), by first | exact Kd.R_nil _ _ _ _ _ | exact Kd.N_nil _ _ _ _ _ | exact Kd.V_nil _ _ _ _ _ | exact Kd.Q_nil _ _ _ _ _ | exact Kd.S_nil _ _ _ _ _, by repeat (first | (with_reducible first | exact HB.out | apply below_alloc | apply pw_below_drewN | apply below_drew1) | exact HB.out)⟩
      · replace c11 := Bool.eq_false_iff.mpr c11
        subst c11
        have H1 : (payrollref35_Undo.l0 kj3 l0 a1 a2 ([] : List (S28)) 0) = some (r1, r2) := by rw [if_neg (show ¬ (false = true) by decide)] at H; exact H
        clear H
        have H := H1
        clear H1
        have H' := Aside0.mk H
        clear H
        go_wp2
        go_loopg [8, 9] kj3 (fun kq v8 v9 w' => ∃ (x8_2 : List (S28)) (x9_2 : Int), v9 = .int .i64 x9_2 ∧ Aside0 (payrollref35_Undo.l0 kq l0 a1 a2 x8_2 x9_2 = some (r1, r2)) ∧ Aside0 (kq ≤ kj3) ∧ Aside0 (Kd.R k28 28 w' w.heap.size (fun _ => True) v8 x8_2) ∧ Aside0 (Below w.heap.size w w'))
        case atStart => exact ⟨(([] : List (S28))), (0), (by first | rfl | (simp; done) | (simp [*]; done)), H', ⟨Nat.le_refl _⟩, ⟨by first | exact Kd.R_nil _ _ _ _ _ | exact Kd.N_nil _ _ _ _ _ | exact Kd.V_nil _ _ _ _ _ | exact Kd.Q_nil _ _ _ _ _ | exact Kd.S_nil _ _ _ _ _⟩, ⟨by repeat (first | (with_reducible first | exact HB.out | apply below_alloc | apply pw_below_drewN | apply below_drew1) | exact HB.out)⟩⟩
        case round =>
          clear H'
          try clear c1
          try clear c2
          try clear p2
          try clear c3
          try clear c6
          try clear c7
          try clear c7b0
          try clear c11
          try clear p2
          obtain ⟨x8_2, x9_2, rfl, HA, HK2, HO_8, HB⟩ := hrel
          cases gk with
          | zero => exact absurd HA.out (by simp [payrollref35_Undo.l0])
          | succ k2 =>
            have H := HA.out
            clear HA
            simp only [payrollref35_Undo.l0] at H
            by_cases c12 : x9_2 < (l0.length : Int)
            · rw [if_pos c12] at H
              have c12b0 : decide (x9_2 < (l0.length : Int)) = true := decide_eq_true c12
              clear c12
              by_cases c13 : 0 ≤ x9_2
              · rw [if_pos c13] at H
                have c13b0 : decide (0 ≤ x9_2) = true := decide_eq_true c13
                clear c13
                by_cases c14 : ((rd_T28 l0 x9_2).f0) = a1
                · rw [if_pos c14] at H
                  have c14b0 : (((rd_T28 l0 x9_2).f0) == a1) = true := beq_iff_eq.mpr c14
                  have c14b1 : (((rd_T28 l0 x9_2).f0) != a1) = false := bne_eq_false_iff_eq.mpr c14
                  clear c14
                  by_cases c15 : x8_2.length < 2513169434916
                  · rw [if_pos c15] at H
                    have LMc15 := Aside0.mk c15
                    clear c15
                    obtain ⟨y355, hy355⟩ : ∃ y_ : List (S28), y_ = (x8_2 ++ [(⟨a2, (rd_T28 l0 x9_2).f1, (rd_T28 l0 x9_2).f2, (⟨(rd_T28 l0 x9_2).f3.f0, (rd_T28 l0 x9_2).f3.f1, wrap64 (-((rd_T28 l0 x9_2).f3.f2))⟩ : S26)⟩ : S28)]) := ⟨_, rfl⟩
                    replace H : (payrollref35_Undo.l0 k2 l0 a1 a2 y355 (wrap64 (x9_2 + 1))) = some (r1, r2) := by first | (rw [hy355]; with_reducible exact H) | (have H2_ := (Option.bind_some _ _).symm.trans H; rw [hy355]; with_reducible exact H2_) | (have H2_ := (Option.bind_some _ _).symm.trans H; with_reducible exact H2_) | with_reducible exact H | (rw [hy355]; exact H) | exact H
                    have Ny355 := Aside0.mk hy355
                    clear hy355
                    have H' := Aside0.mk H
                    clear H
                    have p352 : 0 ≤ (x9_2 : Int) := of_decide_eq_true (by first | (with_reducible assumption) | assumption)
                    have q352 : x9_2 < (l0.length : Int) := of_decide_eq_true (by first | (with_reducible assumption) | assumption)
                    obtain ⟨ad352, e352, hx352_0, hx352_1, hx352_2, hx352_3, hx352_4, hx352_5⟩ := at_T28 HR0.out x9_2 p352 q352
                    cases e352
                    replace hx352_0 := (HB.out.cell (World.block_lt_of_cell? w _ hx352_0)).trans hx352_0
                    replace hx352_1 := (HB.out.cell (World.block_lt_of_cell? w _ hx352_1)).trans hx352_1
                    replace hx352_2 := (HB.out.cell (World.block_lt_of_cell? w _ hx352_2)).trans hx352_2
                    replace hx352_3 := (HB.out.cell (World.block_lt_of_cell? w _ hx352_3)).trans hx352_3
                    replace hx352_4 := (HB.out.cell (World.block_lt_of_cell? w _ hx352_4)).trans hx352_4
                    replace hx352_5 := (HB.out.cell (World.block_lt_of_cell? w _ hx352_5)).trans hx352_5
                    replace p352 := eq_true p352
                    replace q352 := eq_true q352
                    have p353 : 0 ≤ (x9_2 : Int) := of_decide_eq_true (by first | (with_reducible assumption) | assumption)
                    have q353 : x9_2 < (l0.length : Int) := of_decide_eq_true (by first | (with_reducible assumption) | assumption)
                    obtain ⟨ad353, e353, hx353_0, hx353_1, hx353_2, hx353_3, hx353_4, hx353_5⟩ := at_T28 HR0.out x9_2 p353 q353
                    obtain rfl : ad352 = ad353 := (by injection e353)
                    replace hx353_0 := (HB.out.cell (World.block_lt_of_cell? w _ hx353_0)).trans hx353_0
                    replace hx353_1 := (HB.out.cell (World.block_lt_of_cell? w _ hx353_1)).trans hx353_1
                    replace hx353_2 := (HB.out.cell (World.block_lt_of_cell? w _ hx353_2)).trans hx353_2
                    replace hx353_3 := (HB.out.cell (World.block_lt_of_cell? w _ hx353_3)).trans hx353_3
                    replace hx353_4 := (HB.out.cell (World.block_lt_of_cell? w _ hx353_4)).trans hx353_4
                    replace hx353_5 := (HB.out.cell (World.block_lt_of_cell? w _ hx353_5)).trans hx353_5
                    replace p353 := eq_true p353
                    replace q353 := eq_true q353
                    have hIs := payrollref35_Undo.isSome_set
                    go_wp2_with (first | ((with_reducible refine gate_dst (N := 10) rfl ?_); refine box_event ?hg (N := 10) ?hd (cs := #[.int .i64 0, .int .i64 0, .int .i64 0, .int .i64 0, .string (⟨#[]⟩ : ByteArray), .int .i64 0]) (t := 28) ?hr ?_; (case hd => rfl); (case hg => rfl); (case hr => first | (go_simp; done) | (go_simp; rfl)); intro gb354 hg w16 hbox hb; have n0_ := Aside0.mk (Kd.R_below (Kd.R_elderB (by (with_reducible repeat (first | apply Kd.R_alloc | apply Kd.R_drewN | apply Kd.R_drew)); exact HO_8.out) gb354 (Nat.le_of_eq hg.symm)) hb); have n1_ := Aside0.mk (below_step (by repeat (first | (with_reducible first | exact HB.out | apply below_alloc | apply pw_below_drewN | apply below_drew1) | exact HB.out)) hb); have n2_ := Aside0.mk (hbox); have n3_ := Aside0.mk ((by rw [hg]; exact (below_size (by repeat (first | (with_reducible first | exact HB.out | apply below_alloc | apply pw_below_drewN | apply below_drew1) | exact HB.out))) : w.heap.size ≤ gb354)); have n4_ := Aside0.mk ((by rw [hg]; exact (below_size (by repeat (first | (with_reducible first | exact HB.out | apply below_alloc | apply pw_below_drewN | apply below_drew1) | exact HB.out))) : w.heap.size ≤ gb354)); clear HO_8; clear HB; have HO_8 := n0_; have HB := n1_; have BK354 := n2_; have GW354 := n3_; have GE354 := n4_; clear n0_ n1_ n2_ n3_ n4_; clear hb hbox hg; have hcz17_0 : w16.cell? ⟨gb354, 0, none⟩ = some (.int .i64 0) := (blk_cell BK354.out 0).trans rfl; have hcz17_1 : w16.cell? ⟨gb354, 1, none⟩ = some (.int .i64 0) := (blk_cell BK354.out 1).trans rfl; have hcz17_2 : w16.cell? ⟨gb354, 2, none⟩ = some (.int .i64 0) := (blk_cell BK354.out 2).trans rfl; have hcz17_3 : w16.cell? ⟨gb354, 3, none⟩ = some (.int .i64 0) := (blk_cell BK354.out 3).trans rfl; have hcz17_4 : w16.cell? ⟨gb354, 4, none⟩ = some (.string (⟨#[]⟩ : ByteArray)) := (blk_cell BK354.out 4).trans rfl; have hcz17_5 : w16.cell? ⟨gb354, 5, none⟩ = some (.int .i64 0) := (blk_cell BK354.out 5).trans rfl; have hfz17_0 := blk_frozen BK354.out 0; have hfz17_1 := blk_frozen BK354.out 1; have hfz17_2 := blk_frozen BK354.out 2; have hfz17_3 := blk_frozen BK354.out 3; have hfz17_4 := blk_frozen BK354.out 4; have hfz17_5 := blk_frozen BK354.out 5) | ((with_reducible refine gate_builtin (b := .append) (xs := #[.tmp 47, .tmp 49]) rfl ?_); at_builtin; refine Kd.R_append k28 (w0 := w) w.heap.size rfl (.tmp 47) (.tmp 49) 23 28 (.agg #[(.int .i64 0), (.int .i64 0), (.int .i64 0), (.int .i64 0), (.string ⟨#[]⟩), (.int .i64 0)]) 56 rfl Try.underlying23 info28 rfl (by decide) (by omega) u8 x8_2 (⟨a2, (rd_T28 l0 x9_2).f1, (rd_T28 l0 x9_2).f2, (⟨(rd_T28 l0 x9_2).f3.f0, (rd_T28 l0 x9_2).f3.f1, wrap64 (-((rd_T28 l0 x9_2).f3.f2))⟩ : S26)⟩ : S28) [.int .i64 a2, .int .i64 ((rd_T28 l0 x9_2).f1), .int .i64 ((rd_T28 l0 x9_2).f2), .int .i64 ((rd_T28 l0 x9_2).f3.f0), .string ((rd_T28 l0 x9_2).f3.f1), .int .i64 (wrap64 (-((rd_T28 l0 x9_2).f3.f2)))] (fun k_ => k_ ≠ gb354) (fun _ => False) rfl (by first | (go_simp; done) | (go_simp; rfl)) ?aP (fun _ hk => hk.elim) ?aF ?aO ?aB ?aS ?aL ?_; (case aP => exact k28_mkM _ _ _ (⟨a2, (rd_T28 l0 x9_2).f1, (rd_T28 l0 x9_2).f2, (⟨(rd_T28 l0 x9_2).f3.f0, (rd_T28 l0 x9_2).f3.f1, wrap64 (-((rd_T28 l0 x9_2).f3.f2))⟩ : S26)⟩ : S28)); (case aB => exact (by repeat (first | (with_reducible first | exact HB.out | apply below_alloc | apply pw_below_drewN | apply below_drew1 | refine below_set ?_ GE354.out) | exact HB.out))); (case aF => exact (fun k_ hk => Kd.freshB (g := gb354) (o := .cells #[.int .i64 a2, .int .i64 ((rd_T28 l0 x9_2).f1), .int .i64 ((rd_T28 l0 x9_2).f2), .int .i64 ((rd_T28 l0 x9_2).f3.f0), .string ((rd_T28 l0 x9_2).f3.f1), .int .i64 (wrap64 (-((rd_T28 l0 x9_2).f3.f2)))] 28 (0, 0)) (by (with_reducible repeat (first | refine blk_drewN ?_ _ | refine blk_drew ?_ | refine blk_alloc ?_ _)); refine blk_put (cs := #[.int .i64 a2, .int .i64 ((rd_T28 l0 x9_2).f1), .int .i64 ((rd_T28 l0 x9_2).f2), .int .i64 ((rd_T28 l0 x9_2).f3.f0), .string ((rd_T28 l0 x9_2).f3.f1), .int .i64 ((rd_T28 l0 x9_2).f3.f2)]) ?_ 5 _ rfl; (with_reducible repeat (first | refine blk_drewN ?_ _ | refine blk_drew ?_ | refine blk_alloc ?_ _)); refine blk_put (cs := #[.int .i64 ((rd_T28 l0 x9_2).f0), .int .i64 ((rd_T28 l0 x9_2).f1), .int .i64 ((rd_T28 l0 x9_2).f2), .int .i64 ((rd_T28 l0 x9_2).f3.f0), .string ((rd_T28 l0 x9_2).f3.f1), .int .i64 ((rd_T28 l0 x9_2).f3.f2)]) ?_ 0 _ rfl; (with_reducible repeat (first | refine blk_drewN ?_ _ | refine blk_drew ?_ | refine blk_alloc ?_ _)); refine blk_put (cs := #[.int .i64 ((rd_T28 l0 x9_2).f0), .int .i64 ((rd_T28 l0 x9_2).f1), .int .i64 ((rd_T28 l0 x9_2).f2), .int .i64 ((rd_T28 l0 x9_2).f3.f0), .string ((rd_T28 l0 x9_2).f3.f1), .int .i64 0]) ?_ 5 _ rfl; (with_reducible repeat (first | refine blk_drewN ?_ _ | refine blk_drew ?_ | refine blk_alloc ?_ _)); refine blk_put (cs := #[.int .i64 ((rd_T28 l0 x9_2).f0), .int .i64 ((rd_T28 l0 x9_2).f1), .int .i64 ((rd_T28 l0 x9_2).f2), .int .i64 ((rd_T28 l0 x9_2).f3.f0), .string (⟨#[]⟩ : ByteArray), .int .i64 0]) ?_ 4 _ rfl; (with_reducible repeat (first | refine blk_drewN ?_ _ | refine blk_drew ?_ | refine blk_alloc ?_ _)); refine blk_put (cs := #[.int .i64 ((rd_T28 l0 x9_2).f0), .int .i64 ((rd_T28 l0 x9_2).f1), .int .i64 ((rd_T28 l0 x9_2).f2), .int .i64 0, .string (⟨#[]⟩ : ByteArray), .int .i64 0]) ?_ 3 _ rfl; (with_reducible repeat (first | refine blk_drewN ?_ _ | refine blk_drew ?_ | refine blk_alloc ?_ _)); refine blk_put (cs := #[.int .i64 ((rd_T28 l0 x9_2).f0), .int .i64 ((rd_T28 l0 x9_2).f1), .int .i64 0, .int .i64 0, .string (⟨#[]⟩ : ByteArray), .int .i64 0]) ?_ 2 _ rfl; (with_reducible repeat (first | refine blk_drewN ?_ _ | refine blk_drew ?_ | refine blk_alloc ?_ _)); refine blk_put (cs := #[.int .i64 ((rd_T28 l0 x9_2).f0), .int .i64 0, .int .i64 0, .int .i64 0, .string (⟨#[]⟩ : ByteArray), .int .i64 0]) ?_ 1 _ rfl; (with_reducible repeat (first | refine blk_drewN ?_ _ | refine blk_drew ?_ | refine blk_alloc ?_ _)); refine blk_put (cs := #[.int .i64 0, .int .i64 0, .int .i64 0, .int .i64 0, .string (⟨#[]⟩ : ByteArray), .int .i64 0]) ?_ 0 _ rfl; (with_reducible repeat (first | refine blk_drewN ?_ _ | refine blk_drew ?_ | refine blk_alloc ?_ _)); exact BK354.out) k_ hk)); (case aO => exact (by (with_reducible repeat (first | apply Kd.R_alloc | apply Kd.R_drewN | apply Kd.R_drew)); exact Kd.R_mono (Kd.R_far (p := ⟨gb354, 5, none⟩) (Kd.R_far (p := ⟨gb354, 0, none⟩) (Kd.R_far (p := ⟨gb354, 5, none⟩) (Kd.R_far (p := ⟨gb354, 4, none⟩) (Kd.R_far (p := ⟨gb354, 3, none⟩) (Kd.R_far (p := ⟨gb354, 2, none⟩) (Kd.R_far (p := ⟨gb354, 1, none⟩) (Kd.R_far (p := ⟨gb354, 0, none⟩) (Kd.R_mono HO_8.out (fun k_ hk => (⟨hk, hk.2⟩ : _ ∧ k_ ≠ gb354))) (fun _ hk => hk.2) (.int .i64 ((rd_T28 l0 x9_2).f0))) (fun _ hk => hk.2) (.int .i64 ((rd_T28 l0 x9_2).f1))) (fun _ hk => hk.2) (.int .i64 ((rd_T28 l0 x9_2).f2))) (fun _ hk => hk.2) (.int .i64 ((rd_T28 l0 x9_2).f3.f0))) (fun _ hk => hk.2) (.string ((rd_T28 l0 x9_2).f3.f1))) (fun _ hk => hk.2) (.int .i64 ((rd_T28 l0 x9_2).f3.f2))) (fun _ hk => hk.2) (.int .i64 a2)) (fun _ hk => hk.2) (.int .i64 (wrap64 (-((rd_T28 l0 x9_2).f3.f2))))) (fun _ hk => hk.1.2))); (case aS => exact (below_size (by repeat (first | (with_reducible first | exact HB.out | apply below_alloc | apply pw_below_drewN | apply below_drew1 | refine below_set ?_ GE354.out) | exact HB.out)))); (case aL => have := LMc15.out; omega); intro v356 w18 ho hb hg hat; rw [← Ny355.out] at ho; have n0_ := Aside0.mk (blk_grown (g := gb354) (o := .cells #[.int .i64 a2, .int .i64 ((rd_T28 l0 x9_2).f1), .int .i64 ((rd_T28 l0 x9_2).f2), .int .i64 ((rd_T28 l0 x9_2).f3.f0), .string ((rd_T28 l0 x9_2).f3.f1), .int .i64 (wrap64 (-((rd_T28 l0 x9_2).f3.f2)))] 28 (0, 0)) (by (with_reducible repeat (first | refine blk_drewN ?_ _ | refine blk_drew ?_ | refine blk_alloc ?_ _)); refine blk_put (cs := #[.int .i64 a2, .int .i64 ((rd_T28 l0 x9_2).f1), .int .i64 ((rd_T28 l0 x9_2).f2), .int .i64 ((rd_T28 l0 x9_2).f3.f0), .string ((rd_T28 l0 x9_2).f3.f1), .int .i64 ((rd_T28 l0 x9_2).f3.f2)]) ?_ 5 _ rfl; (with_reducible repeat (first | refine blk_drewN ?_ _ | refine blk_drew ?_ | refine blk_alloc ?_ _)); refine blk_put (cs := #[.int .i64 ((rd_T28 l0 x9_2).f0), .int .i64 ((rd_T28 l0 x9_2).f1), .int .i64 ((rd_T28 l0 x9_2).f2), .int .i64 ((rd_T28 l0 x9_2).f3.f0), .string ((rd_T28 l0 x9_2).f3.f1), .int .i64 ((rd_T28 l0 x9_2).f3.f2)]) ?_ 0 _ rfl; (with_reducible repeat (first | refine blk_drewN ?_ _ | refine blk_drew ?_ | refine blk_alloc ?_ _)); refine blk_put (cs := #[.int .i64 ((rd_T28 l0 x9_2).f0), .int .i64 ((rd_T28 l0 x9_2).f1), .int .i64 ((rd_T28 l0 x9_2).f2), .int .i64 ((rd_T28 l0 x9_2).f3.f0), .string ((rd_T28 l0 x9_2).f3.f1), .int .i64 0]) ?_ 5 _ rfl; (with_reducible repeat (first | refine blk_drewN ?_ _ | refine blk_drew ?_ | refine blk_alloc ?_ _)); refine blk_put (cs := #[.int .i64 ((rd_T28 l0 x9_2).f0), .int .i64 ((rd_T28 l0 x9_2).f1), .int .i64 ((rd_T28 l0 x9_2).f2), .int .i64 ((rd_T28 l0 x9_2).f3.f0), .string (⟨#[]⟩ : ByteArray), .int .i64 0]) ?_ 4 _ rfl; (with_reducible repeat (first | refine blk_drewN ?_ _ | refine blk_drew ?_ | refine blk_alloc ?_ _)); refine blk_put (cs := #[.int .i64 ((rd_T28 l0 x9_2).f0), .int .i64 ((rd_T28 l0 x9_2).f1), .int .i64 ((rd_T28 l0 x9_2).f2), .int .i64 0, .string (⟨#[]⟩ : ByteArray), .int .i64 0]) ?_ 3 _ rfl; (with_reducible repeat (first | refine blk_drewN ?_ _ | refine blk_drew ?_ | refine blk_alloc ?_ _)); refine blk_put (cs := #[.int .i64 ((rd_T28 l0 x9_2).f0), .int .i64 ((rd_T28 l0 x9_2).f1), .int .i64 0, .int .i64 0, .string (⟨#[]⟩ : ByteArray), .int .i64 0]) ?_ 2 _ rfl; (with_reducible repeat (first | refine blk_drewN ?_ _ | refine blk_drew ?_ | refine blk_alloc ?_ _)); refine blk_put (cs := #[.int .i64 ((rd_T28 l0 x9_2).f0), .int .i64 0, .int .i64 0, .int .i64 0, .string (⟨#[]⟩ : ByteArray), .int .i64 0]) ?_ 1 _ rfl; (with_reducible repeat (first | refine blk_drewN ?_ _ | refine blk_drew ?_ | refine blk_alloc ?_ _)); refine blk_put (cs := #[.int .i64 0, .int .i64 0, .int .i64 0, .int .i64 0, .string (⟨#[]⟩ : ByteArray), .int .i64 0]) ?_ 0 _ rfl; (with_reducible repeat (first | refine blk_drewN ?_ _ | refine blk_drew ?_ | refine blk_alloc ?_ _)); exact BK354.out) hg (Kd.R_away HO_8.out (fun _ hk => hk.2))); have n1_ := Aside0.mk (hb); have n2_ := Aside0.mk (ho); clear BK354; clear HB; clear HO_8; have BK354 := n0_; have HB := n1_; have HO357 := n2_; clear n0_ n1_ n2_; clear ho hb hg hat))
                    go_roundg k2
                    case measure => have := HJ3.out; have := HK2.out; omega
                    case rel => exact ⟨(y355), (wrap64 (x9_2 + 1)), (by first | rfl | (simp; done) | (simp [*]; done)), H', ⟨by have := HJ3.out; have := HK2.out; omega⟩, ⟨by (with_reducible repeat (first | apply Kd.R_alloc | apply Kd.R_drewN | apply Kd.R_drew)); exact Kd.R_mono HO357.out (fun _ hk => trivial)⟩, ⟨by repeat (first | (with_reducible first | exact HB.out | apply below_alloc | apply pw_below_drewN | apply below_drew1 | refine below_set ?_ GE354.out) | exact HB.out)⟩⟩
                  · rw [if_neg c15] at H
                    exact absurd H (by simp)
                · rw [if_neg c14] at H
                  have c14b0 : (((rd_T28 l0 x9_2).f0) == a1) = false := beq_eq_false_iff_ne.mpr c14
                  have c14b1 : (((rd_T28 l0 x9_2).f0) != a1) = true := bne_iff_ne.mpr c14
                  have H' := Aside0.mk H
                  clear H
                  have p352 : 0 ≤ (x9_2 : Int) := of_decide_eq_true (by first | (with_reducible assumption) | assumption)
                  have q352 : x9_2 < (l0.length : Int) := of_decide_eq_true (by first | (with_reducible assumption) | assumption)
                  obtain ⟨ad352, e352, hx352_0, hx352_1, hx352_2, hx352_3, hx352_4, hx352_5⟩ := at_T28 HR0.out x9_2 p352 q352
                  cases e352
                  replace hx352_0 := (HB.out.cell (World.block_lt_of_cell? w _ hx352_0)).trans hx352_0
                  replace hx352_1 := (HB.out.cell (World.block_lt_of_cell? w _ hx352_1)).trans hx352_1
                  replace hx352_2 := (HB.out.cell (World.block_lt_of_cell? w _ hx352_2)).trans hx352_2
                  replace hx352_3 := (HB.out.cell (World.block_lt_of_cell? w _ hx352_3)).trans hx352_3
                  replace hx352_4 := (HB.out.cell (World.block_lt_of_cell? w _ hx352_4)).trans hx352_4
                  replace hx352_5 := (HB.out.cell (World.block_lt_of_cell? w _ hx352_5)).trans hx352_5
                  replace p352 := eq_true p352
                  replace q352 := eq_true q352
                  go_wp2
                  go_roundg k2
                  case measure => have := HJ3.out; have := HK2.out; omega
                  case rel => exact ⟨(x8_2), (wrap64 (x9_2 + 1)), (by first | rfl | (simp; done) | (simp [*]; done)), H', ⟨by have := HJ3.out; have := HK2.out; omega⟩, ⟨by (with_reducible repeat (first | apply Kd.R_alloc | apply Kd.R_drewN | apply Kd.R_drew)); exact HO_8.out⟩, ⟨by repeat (first | (with_reducible first | exact HB.out | apply below_alloc | apply pw_below_drewN | apply below_drew1) | exact HB.out)⟩⟩
              · rw [if_neg c13] at H
                exact absurd H (by simp)
            · rw [if_neg c12] at H
              have c12b0 : decide (x9_2 < (l0.length : Int)) = false := decide_eq_false c12
              clear c12
              by_cases c19 : (x8_2.length : Int) = 0
              · rw [if_pos c19] at H
                have c19b0 : ((x8_2.length : Int) == 0) = true := beq_iff_eq.mpr c19
                have c19b1 : ((x8_2.length : Int) != 0) = false := bne_eq_false_iff_eq.mpr c19
                clear c19
                simp only [Option.some.injEq, Prod.mk.injEq] at H
                obtain ⟨rfl, rfl⟩ := H
                obtain ⟨Ao20, co20, eo20⟩ := Kd.R_slice HO_8.out
                subst eo20
                go_wp2
                go_ret2
                exact ⟨_, by first | rfl | (simp [errW_none, errW_some] <;> rfl) | (simp [*, errW_none, errW_some] <;> rfl), by first | exact Kd.R_nil _ _ _ _ _ | exact Kd.N_nil _ _ _ _ _ | exact Kd.V_nil _ _ _ _ _ | exact Kd.Q_nil _ _ _ _ _ | exact Kd.S_nil _ _ _ _ _, by repeat (first | (with_reducible first | exact HB.out | apply below_alloc | apply pw_below_drewN | apply below_drew1) | exact HB.out)⟩
              · rw [if_neg c19] at H
                have c19b0 : ((x8_2.length : Int) == 0) = false := beq_eq_false_iff_ne.mpr c19
                have c19b1 : ((x8_2.length : Int) != 0) = true := bne_iff_ne.mpr c19
                have c19b2 : ¬ (x8_2 = []) := fun h_ => c19 (by rw [h_]; rfl)
                obtain ⟨ji21, hji21⟩ : ∃ j_ : Int, (wrap64 ((l0.length : Int) - 1)) = j_ := ⟨_, rfl⟩
                replace H : (if 0 ≤ (ji21) then (if (ji21) < (l0.length : Int) then (if ((rd_T28 l0 (ji21)).f0) ≥ a2 then (some (([] : List (S28)), 15)) else (some (x8_2, 0))) else (none)) else (none)) = some (r1, r2) := by first | (rw [hji21] at H; exact H) | (simp only [hji21] at H ⊢; exact H)
                have hji21w : (IntKind.i64.wrap ((l0.length : Int) - 1)) = ji21 := (i64_w _).trans hji21
                by_cases c22 : 0 ≤ (ji21)
                · rw [if_pos c22] at H
                  have c22b0 : decide (0 ≤ (ji21)) = true := decide_eq_true c22
                  clear c22
                  by_cases c23 : (ji21) < (l0.length : Int)
                  · rw [if_pos c23] at H
                    have c23b0 : decide ((ji21) < (l0.length : Int)) = true := decide_eq_true c23
                    clear c23
                    by_cases c24 : ((rd_T28 l0 (ji21)).f0) ≥ a2
                    · rw [if_pos c24] at H
                      have c24b0 : decide (a2 ≤ ((rd_T28 l0 (ji21)).f0)) = true := decide_eq_true c24
                      clear c24
                      simp only [Option.some.injEq, Prod.mk.injEq] at H
                      obtain ⟨rfl, rfl⟩ := H
                      obtain ⟨Ao25, co25, eo25⟩ := Kd.R_slice HO_8.out
                      subst eo25
                      have p358 : 0 ≤ ((ji21) : Int) := of_decide_eq_true (by first | (with_reducible assumption) | assumption)
                      have q358 : (ji21) < (l0.length : Int) := of_decide_eq_true (by first | (with_reducible assumption) | assumption)
                      obtain ⟨ad358, e358, hx358_0, hx358_1, hx358_2, hx358_3, hx358_4, hx358_5⟩ := at_T28 HR0.out (ji21) p358 q358
                      cases e358
                      replace hx358_0 := (HB.out.cell (World.block_lt_of_cell? w _ hx358_0)).trans hx358_0
                      replace hx358_1 := (HB.out.cell (World.block_lt_of_cell? w _ hx358_1)).trans hx358_1
                      replace hx358_2 := (HB.out.cell (World.block_lt_of_cell? w _ hx358_2)).trans hx358_2
                      replace hx358_3 := (HB.out.cell (World.block_lt_of_cell? w _ hx358_3)).trans hx358_3
                      replace hx358_4 := (HB.out.cell (World.block_lt_of_cell? w _ hx358_4)).trans hx358_4
                      replace hx358_5 := (HB.out.cell (World.block_lt_of_cell? w _ hx358_5)).trans hx358_5
                      replace p358 := eq_true p358
                      replace q358 := eq_true q358
                      go_wp2
                      go_ret2
                      exact ⟨_, by first | rfl | (simp [errW_none, errW_some] <;> rfl) | (simp only [← hji21]; first | rfl | (simp [errW_none, errW_some] <;> rfl)) | (simp [*, errW_none, errW_some] <;> rfl), by first | exact Kd.R_nil _ _ _ _ _ | exact Kd.N_nil _ _ _ _ _ | exact Kd.V_nil _ _ _ _ _ | exact Kd.Q_nil _ _ _ _ _ | exact Kd.S_nil _ _ _ _ _, by repeat (first | (with_reducible first | exact HB.out | apply below_alloc | apply pw_below_drewN | apply below_drew1) | exact HB.out)⟩
                    · rw [if_neg c24] at H
                      have c24b0 : decide (a2 ≤ ((rd_T28 l0 (ji21)).f0)) = false := decide_eq_false c24
                      clear c24
                      simp only [Option.some.injEq, Prod.mk.injEq] at H
                      obtain ⟨rfl, rfl⟩ := H
                      obtain ⟨Ao26, co26, eo26⟩ := Kd.R_slice HO_8.out
                      subst eo26
                      have p358 : 0 ≤ ((ji21) : Int) := of_decide_eq_true (by first | (with_reducible assumption) | assumption)
                      have q358 : (ji21) < (l0.length : Int) := of_decide_eq_true (by first | (with_reducible assumption) | assumption)
                      obtain ⟨ad358, e358, hx358_0, hx358_1, hx358_2, hx358_3, hx358_4, hx358_5⟩ := at_T28 HR0.out (ji21) p358 q358
                      cases e358
                      replace hx358_0 := (HB.out.cell (World.block_lt_of_cell? w _ hx358_0)).trans hx358_0
                      replace hx358_1 := (HB.out.cell (World.block_lt_of_cell? w _ hx358_1)).trans hx358_1
                      replace hx358_2 := (HB.out.cell (World.block_lt_of_cell? w _ hx358_2)).trans hx358_2
                      replace hx358_3 := (HB.out.cell (World.block_lt_of_cell? w _ hx358_3)).trans hx358_3
                      replace hx358_4 := (HB.out.cell (World.block_lt_of_cell? w _ hx358_4)).trans hx358_4
                      replace hx358_5 := (HB.out.cell (World.block_lt_of_cell? w _ hx358_5)).trans hx358_5
                      replace p358 := eq_true p358
                      replace q358 := eq_true q358
                      go_wp2
                      go_ret2
                      exact ⟨_, by first | rfl | (simp [errW_none, errW_some] <;> rfl) | (simp only [← hji21]; first | rfl | (simp [errW_none, errW_some] <;> rfl)) | (simp [*, errW_none, errW_some] <;> rfl), by (with_reducible repeat (first | apply Kd.R_alloc | apply Kd.R_drewN | apply Kd.R_drew)); exact HO_8.out, by repeat (first | (with_reducible first | exact HB.out | apply below_alloc | apply pw_below_drewN | apply below_drew1) | exact HB.out)⟩
                  · rw [if_neg c23] at H
                    exact absurd H (by simp)
                · rw [if_neg c22] at H
                  exact absurd H (by simp)

end Go.Proofs.Ytfakedchahildaa.Q
