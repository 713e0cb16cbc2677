-- Printed by wip/xprint.py over the translation, with contracts proved by hand among them. Lean checks it.
import Derived.Test.YtfakedchahildaaQx0
import Derived.Test.YtfakedchahildaaQx13
namespace Go.Proofs.Ytfakedchahildaa.Q
open Go.RowKit Go.Proofs.YtfakedchahildaaW.PrintWords Go.Proofs.YtfakedchahildaaW.PrintLast Go.Proofs.YtfakedchahildaaW.PrintMore
attribute [local go_sem] max2_int min2_int max_two min_two max_three min_three max_four min_four   -- for this text's walks alone
set_option linter.unusedVariables false
set_option linter.unusedSimpArgs false

/-! ### payrollref35_AsOf: function 25 -/
def payrollref35_AsOf.l0 : Nat → List (S28) → Int → List (S28) → Int → Option ((List (S28)))
  | 0, _, _, _, _ => none
  | k + 1, x0, x1, x5, x6 => if x6 < (x0.length : Int) then (if 0 ≤ x6 then (if ((rd_T28 x0 x6).f0) ≤ x1 then (if x5.length < 2513169434916 then (payrollref35_AsOf.l0 k x0 x1 (x5 ++ [(⟨(rd_T28 x0 x6).f0, (rd_T28 x0 x6).f1, (rd_T28 x0 x6).f2, (⟨(rd_T28 x0 x6).f3.f0, (rd_T28 x0 x6).f3.f1, (rd_T28 x0 x6).f3.f2⟩ : S26)⟩ : S28)]) (wrap64 (x6 + 1))) else (none)) else (payrollref35_AsOf.l0 k x0 x1 x5 (wrap64 (x6 + 1)))) else (none)) else (some x5)
def payrollref35_AsOf.f (k : Nat) (l0 : List (S28)) (a1 : Int) : Option ((List (S28))) := (payrollref35_Book.f k l0).bind fun t276 => (if t276 = true then (payrollref35_AsOf.l0 k l0 a1 ([] : List (S28)) 0) else (some ([] : List (S28))))
theorem payrollref35_AsOf.mono_l : ∀ k, (∀ y0 y1 y2 y3, LeO (payrollref35_AsOf.l0 k y0 y1 y2 y3) (payrollref35_AsOf.l0 (k + 1) y0 y1 y2 y3))
  | 0 => fun _ _ _ _ r h => by simp [payrollref35_AsOf.l0] at h
  | k + 1 => by
    have ih0 := payrollref35_AsOf.mono_l k
    · intro y0 y1 y2 y3
      unfold payrollref35_AsOf.l0
      repeat' first
      | (with_reducible exact ih0 _ _ _ _)
      | (with_reducible exact payrollref35_Book.mono _ _)
      | (with_reducible exact LeO.refl _)
      | (with_reducible exact LeO.none _)
      | (with_reducible refine LeO.ite ?_ ?_)
      | (with_reducible refine LeO.bind ?_ (fun _ => ?_))
      | exact ih0 _ _ _ _
      | exact payrollref35_Book.mono _ _
      | exact LeO.none _
      | refine LeO.ite ?_ ?_
      | refine LeO.bind ?_ (fun _ => ?_)
theorem payrollref35_AsOf.mono : ∀ a0 a1 k, LeO (payrollref35_AsOf.f k a0 a1) (payrollref35_AsOf.f (k + 1) a0 a1) := by
  intro a0 a1 k
  have ih0 := payrollref35_AsOf.mono_l k
  unfold payrollref35_AsOf.f
  repeat' first
      | (with_reducible exact ih0 _ _ _ _)
      | (with_reducible exact payrollref35_Book.mono _ _)
      | (with_reducible exact LeO.refl _)
      | (with_reducible exact LeO.none _)
      | (with_reducible refine LeO.ite ?_ ?_)
      | (with_reducible refine LeO.bind ?_ (fun _ => ?_))
      | exact ih0 _ _ _ _
      | exact payrollref35_Book.mono _ _
      | exact LeO.none _
      | refine LeO.ite ?_ ?_
      | refine LeO.bind ?_ (fun _ => ?_)
set_option maxHeartbeats 8000000 in
set_option maxRecDepth 100000 in
theorem payrollref35_AsOf.calls (k : Nat) (A0 : Option Addr) (c0 : Nat) (l0 : List (S28)) (a1 : Int) (r : List (S28)) (w : World) (hr0 : Kd.C k28 w A0 l0.length l0) (hc0 : l0.length ≤ c0) (h : payrollref35_AsOf.f k l0 a1 = some r) :
    Calls Try.prog 25 #[.slice A0 l0.length c0, .int .i64 a1] w fun e w' => ∃ v0_ : Value, e = .returned (v0_) ∧ Kd.R k28 28 w' w.heap.size (fun _ => True) v0_ r ∧ Below w.heap.size w w' := by
  have hu28 := Try.underlying28
  have HR0 := Aside0.mk hr0
  have HC0 := Aside0.mk hc0
  clear hr0 hc0
  have HB := Aside0.mk (Below.refl w.heap.size w)
  have H : ((payrollref35_Book.f k l0).bind fun t276 => (if t276 = true then (payrollref35_AsOf.l0 k l0 a1 ([] : List (S28)) 0) else (some ([] : List (S28))))) = some r := h
  clear h
  replace H := Option.bind_eq_some_iff.mp H
  obtain ⟨t276, A30, H⟩ := H
  replace H : (if t276 = true then (payrollref35_AsOf.l0 k l0 a1 ([] : List (S28)) 0) else (some ([] : List (S28)))) = some r := H
  have A3 := Aside0.mk A30
  clear A30
  by_cases c4 : t276 = true
  · subst c4
    have H1 : (payrollref35_AsOf.l0 k l0 a1 ([] : List (S28)) 0) = some r := by rw [if_pos rfl] at H; exact H
    clear H
    have H := H1
    clear H1
    have H' := Aside0.mk H
    clear H
    go_enter Try.func25, Try.ntmps25
    go_wp2_with (first | ((with_reducible refine gate_callee (f := 38) rfl ?_); refine goesL_ (some 8) rfl rfl Try.func38 (by kernel_rfl) rfl #[.slice A0 l0.length c0] rfl (by (try simp only [List.map_toArray, List.map_cons, List.map_nil]); first | done | rfl | (simp only [List.length_drop, List.length_take]; rfl)) ?_; (with_reducible refine (payrollref35_Book.calls k _ _ l0 true _ ?side1 ?side2 A3.out).mono ?_); (case side1 => repeat (first | exact HR0.out | (with_reducible refine Kd.C_alloc ?_ _) | (with_reducible refine Kd.C_drewN ?_ _) | (with_reducible refine Kd.C_drew ?_))); (case side2 => exact HC0.out); rintro e w5 ⟨rfl, hb⟩; refine ⟨_, rfl, ?_⟩; have n0_ := Aside0.mk (below_step (by repeat (first | (with_reducible first | exact HB.out | apply below_alloc | apply pw_below_drewN | apply below_drew1) | exact HB.out)) hb); clear HB; have HB := n0_; clear n0_; (try clear hb); (try clear hb2); (try clear hk); (try clear hi)))
    go_loopg [5, 6] k (fun kq v5 v6 w' => ∃ (x5_1 : List (S28)) (x6_1 : Int), v6 = .int .i64 x6_1 ∧ Aside0 (payrollref35_AsOf.l0 kq l0 a1 x5_1 x6_1 = some r) ∧ Aside0 (kq ≤ k) ∧ Aside0 (Kd.R k28 28 w' w.heap.size (fun _ => True) v5 x5_1) ∧ Aside0 (Below w.heap.size w w'))
    case atStart => exact ⟨(([] : List (S28))), (0), (by first | rfl | (simp; done) | (simp [*]; done)), H', ⟨Nat.le_refl _⟩, ⟨by first | exact Kd.R_nil _ _ _ _ _ | exact Kd.N_nil _ _ _ _ _ | exact Kd.V_nil _ _ _ _ _ | exact Kd.Q_nil _ _ _ _ _ | exact Kd.S_nil _ _ _ _ _⟩, ⟨by repeat (first | (with_reducible first | exact HB.out | apply below_alloc | apply pw_below_drewN | apply below_drew1) | exact HB.out)⟩⟩
    case round =>
      clear H'
      try clear c2
      try clear p2
      try clear c3
      try clear c4
      obtain ⟨x5_1, x6_1, rfl, HA, HK1, HO_5, HB⟩ := hrel
      cases gk with
      | zero => exact absurd HA.out (by simp [payrollref35_AsOf.l0])
      | succ k1 =>
        have H := HA.out
        clear HA
        simp only [payrollref35_AsOf.l0] at H
        by_cases c6 : x6_1 < (l0.length : Int)
        · rw [if_pos c6] at H
          have c6b0 : decide (x6_1 < (l0.length : Int)) = true := decide_eq_true c6
          clear c6
          by_cases c7 : 0 ≤ x6_1
          · rw [if_pos c7] at H
            have c7b0 : decide (0 ≤ x6_1) = true := decide_eq_true c7
            clear c7
            by_cases c8 : ((rd_T28 l0 x6_1).f0) ≤ a1
            · rw [if_pos c8] at H
              have c8b0 : decide (((rd_T28 l0 x6_1).f0) ≤ a1) = true := decide_eq_true c8
              clear c8
              by_cases c9 : x5_1.length < 2513169434916
              · rw [if_pos c9] at H
                have LMc9 := Aside0.mk c9
                clear c9
                obtain ⟨y279, hy279⟩ : ∃ y_ : List (S28), y_ = (x5_1 ++ [(⟨(rd_T28 l0 x6_1).f0, (rd_T28 l0 x6_1).f1, (rd_T28 l0 x6_1).f2, (⟨(rd_T28 l0 x6_1).f3.f0, (rd_T28 l0 x6_1).f3.f1, (rd_T28 l0 x6_1).f3.f2⟩ : S26)⟩ : S28)]) := ⟨_, rfl⟩
                replace H : (payrollref35_AsOf.l0 k1 l0 a1 y279 (wrap64 (x6_1 + 1))) = some r := by first | (rw [hy279]; with_reducible exact H) | (have H2_ := (Option.bind_some _ _).symm.trans H; rw [hy279]; with_reducible exact H2_) | (have H2_ := (Option.bind_some _ _).symm.trans H; with_reducible exact H2_) | with_reducible exact H | (rw [hy279]; exact H) | exact H
                have Ny279 := Aside0.mk hy279
                clear hy279
                have H' := Aside0.mk H
                clear H
                have p277 : 0 ≤ (x6_1 : Int) := of_decide_eq_true (by first | (with_reducible assumption) | assumption)
                have q277 : x6_1 < (l0.length : Int) := of_decide_eq_true (by first | (with_reducible assumption) | assumption)
                obtain ⟨ad277, e277, hx277_0, hx277_1, hx277_2, hx277_3, hx277_4, hx277_5⟩ := at_T28 HR0.out x6_1 p277 q277
                cases e277
                replace hx277_0 := (HB.out.cell (World.block_lt_of_cell? w _ hx277_0)).trans hx277_0
                replace hx277_1 := (HB.out.cell (World.block_lt_of_cell? w _ hx277_1)).trans hx277_1
                replace hx277_2 := (HB.out.cell (World.block_lt_of_cell? w _ hx277_2)).trans hx277_2
                replace hx277_3 := (HB.out.cell (World.block_lt_of_cell? w _ hx277_3)).trans hx277_3
                replace hx277_4 := (HB.out.cell (World.block_lt_of_cell? w _ hx277_4)).trans hx277_4
                replace hx277_5 := (HB.out.cell (World.block_lt_of_cell? w _ hx277_5)).trans hx277_5
                replace p277 := eq_true p277
                replace q277 := eq_true q277
                have p278 : 0 ≤ (x6_1 : Int) := of_decide_eq_true (by first | (with_reducible assumption) | assumption)
                have q278 : x6_1 < (l0.length : Int) := of_decide_eq_true (by first | (with_reducible assumption) | assumption)
                obtain ⟨ad278, e278, hx278_0, hx278_1, hx278_2, hx278_3, hx278_4, hx278_5⟩ := at_T28 HR0.out x6_1 p278 q278
                obtain rfl : ad277 = ad278 := (by injection e278)
                replace hx278_0 := (HB.out.cell (World.block_lt_of_cell? w _ hx278_0)).trans hx278_0
                replace hx278_1 := (HB.out.cell (World.block_lt_of_cell? w _ hx278_1)).trans hx278_1
                replace hx278_2 := (HB.out.cell (World.block_lt_of_cell? w _ hx278_2)).trans hx278_2
                replace hx278_3 := (HB.out.cell (World.block_lt_of_cell? w _ hx278_3)).trans hx278_3
                replace hx278_4 := (HB.out.cell (World.block_lt_of_cell? w _ hx278_4)).trans hx278_4
                replace hx278_5 := (HB.out.cell (World.block_lt_of_cell? w _ hx278_5)).trans hx278_5
                replace p278 := eq_true p278
                replace q278 := eq_true q278
                go_wp2_with (first | ((with_reducible refine gate_builtin (b := .append) (xs := #[.tmp 23, .tmp 28]) rfl ?_); at_builtin; refine Kd.R_append k28 (w0 := w) w.heap.size rfl (.tmp 23) (.tmp 28) 23 28 (.agg #[(.int .i64 0), (.int .i64 0), (.int .i64 0), (.int .i64 0), (.string ⟨#[]⟩), (.int .i64 0)]) 56 rfl Try.underlying23 info28 rfl (by decide) (by omega) u5 x5_1 (⟨(rd_T28 l0 x6_1).f0, (rd_T28 l0 x6_1).f1, (rd_T28 l0 x6_1).f2, (⟨(rd_T28 l0 x6_1).f3.f0, (rd_T28 l0 x6_1).f3.f1, (rd_T28 l0 x6_1).f3.f2⟩ : S26)⟩ : S28) [.int .i64 ((rd_T28 l0 x6_1).f0), .int .i64 ((rd_T28 l0 x6_1).f1), .int .i64 ((rd_T28 l0 x6_1).f2), .int .i64 ((rd_T28 l0 x6_1).f3.f0), .string ((rd_T28 l0 x6_1).f3.f1), .int .i64 ((rd_T28 l0 x6_1).f3.f2)] (fun _ => True) (fun _ => False) rfl rfl ?aP (fun _ hk => hk.elim) ?aF ?aO ?aB ?aS ?aL ?_; (case aP => exact k28_mkM _ _ _ (⟨(rd_T28 l0 x6_1).f0, (rd_T28 l0 x6_1).f1, (rd_T28 l0 x6_1).f2, (⟨(rd_T28 l0 x6_1).f3.f0, (rd_T28 l0 x6_1).f3.f1, (rd_T28 l0 x6_1).f3.f2⟩ : S26)⟩ : S28)); (case aB => exact (by repeat (first | (with_reducible first | exact HB.out | apply below_alloc | apply pw_below_drewN | apply below_drew1) | exact HB.out))); (case aF => exact (fun _ _ => trivial)); (case aO => exact (by (with_reducible repeat (first | apply Kd.R_alloc | apply Kd.R_drewN | apply Kd.R_drew)); exact HO_5.out)); (case aS => exact (below_size (by repeat (first | (with_reducible first | exact HB.out | apply below_alloc | apply pw_below_drewN | apply below_drew1) | exact HB.out)))); (case aL => have := LMc9.out; omega); intro v280 w10 ho hb hg hat; rw [← Ny279.out] at ho; have n0_ := Aside0.mk (hb); have n1_ := Aside0.mk (ho); clear HB; clear HO_5; have HB := n0_; have HO281 := n1_; clear n0_ n1_; clear ho hb hg hat))
                go_roundg k1
                case measure => have := HK1.out; omega
                case rel => exact ⟨(y279), (wrap64 (x6_1 + 1)), (by first | rfl | (simp; done) | (simp [*]; done)), H', ⟨by have := HK1.out; omega⟩, ⟨by (with_reducible repeat (first | apply Kd.R_alloc | apply Kd.R_drewN | apply Kd.R_drew)); exact HO281.out⟩, ⟨by repeat (first | (with_reducible first | exact HB.out | apply below_alloc | apply pw_below_drewN | apply below_drew1) | exact HB.out)⟩⟩
              · rw [if_neg c9] at H
                exact absurd H (by simp)
            · rw [if_neg c8] at H
              have c8b0 : decide (((rd_T28 l0 x6_1).f0) ≤ a1) = false := decide_eq_false c8
              clear c8
              have H' := Aside0.mk H
              clear H
              have p277 : 0 ≤ (x6_1 : Int) := of_decide_eq_true (by first | (with_reducible assumption) | assumption)
              have q277 : x6_1 < (l0.length : Int) := of_decide_eq_true (by first | (with_reducible assumption) | assumption)
              obtain ⟨ad277, e277, hx277_0, hx277_1, hx277_2, hx277_3, hx277_4, hx277_5⟩ := at_T28 HR0.out x6_1 p277 q277
              cases e277
              replace hx277_0 := (HB.out.cell (World.block_lt_of_cell? w _ hx277_0)).trans hx277_0
              replace hx277_1 := (HB.out.cell (World.block_lt_of_cell? w _ hx277_1)).trans hx277_1
              replace hx277_2 := (HB.out.cell (World.block_lt_of_cell? w _ hx277_2)).trans hx277_2
              replace hx277_3 := (HB.out.cell (World.block_lt_of_cell? w _ hx277_3)).trans hx277_3
              replace hx277_4 := (HB.out.cell (World.block_lt_of_cell? w _ hx277_4)).trans hx277_4
              replace hx277_5 := (HB.out.cell (World.block_lt_of_cell? w _ hx277_5)).trans hx277_5
              replace p277 := eq_true p277
              replace q277 := eq_true q277
              go_wp2
              go_roundg k1
              case measure => have := HK1.out; omega
              case rel => exact ⟨(x5_1), (wrap64 (x6_1 + 1)), (by first | rfl | (simp; done) | (simp [*]; done)), H', ⟨by have := HK1.out; omega⟩, ⟨by (with_reducible repeat (first | apply Kd.R_alloc | apply Kd.R_drewN | apply Kd.R_drew)); exact HO_5.out⟩, ⟨by repeat (first | (with_reducible first | exact HB.out | apply below_alloc | apply pw_below_drewN | apply below_drew1) | exact HB.out)⟩⟩
          · rw [if_neg c7] at H
            exact absurd H (by simp)
        · rw [if_neg c6] at H
          have c6b0 : decide (x6_1 < (l0.length : Int)) = false := decide_eq_false c6
          clear c6
          obtain rfl := Option.some.inj H
          go_wp2
          go_ret
          exact ⟨_, by first | rfl | (simp [errW_none, errW_some] <;> rfl) | (simp [*, errW_none, errW_some] <;> rfl), by (with_reducible repeat (first | apply Kd.R_alloc | apply Kd.R_drewN | apply Kd.R_drew)); exact HO_5.out, by repeat (first | (with_reducible first | exact HB.out | apply below_alloc | apply pw_below_drewN | apply below_drew1) | exact HB.out)⟩
  · replace c4 := Bool.eq_false_iff.mpr c4
    subst c4
    have H1 : (some ([] : List (S28))) = some r := by rw [if_neg (show ¬ (false = true) by decide)] at H; exact H
    clear H
    have H := H1
    clear H1
    obtain rfl := Option.some.inj H
    go_enter Try.func25, Try.ntmps25
    go_wp2_with (first | ((with_reducible refine gate_callee (f := 38) rfl ?_); refine goesL_ (some 8) rfl rfl Try.func38 (by kernel_rfl) rfl #[.slice A0 l0.length c0] rfl (by (try simp only [List.map_toArray, List.map_cons, List.map_nil]); first | done | rfl | (simp only [List.length_drop, List.length_take]; rfl)) ?_; (with_reducible refine (payrollref35_Book.calls k _ _ l0 false _ ?side1 ?side2 A3.out).mono ?_); (case side1 => repeat (first | exact HR0.out | (with_reducible refine Kd.C_alloc ?_ _) | (with_reducible refine Kd.C_drewN ?_ _) | (with_reducible refine Kd.C_drew ?_))); (case side2 => exact HC0.out); rintro e w11 ⟨rfl, hb⟩; refine ⟨_, rfl, ?_⟩; have n0_ := Aside0.mk (below_step (by repeat (first | (with_reducible first | exact HB.out | apply below_alloc | apply pw_below_drewN | apply below_drew1) | exact HB.out)) hb); clear HB; have HB := n0_; clear n0_; (try clear hb); (try clear hb2); (try clear hk); (try clear hi)))
    go_ret
    exact ⟨_, by first | rfl | (simp [errW_none, errW_some] <;> rfl) | (simp [*, errW_none, errW_some] <;> rfl), by first | exact Kd.R_nil _ _ _ _ _ | exact Kd.N_nil _ _ _ _ _ | exact Kd.V_nil _ _ _ _ _ | exact Kd.Q_nil _ _ _ _ _ | exact Kd.S_nil _ _ _ _ _, by repeat (first | (with_reducible first | exact HB.out | apply below_alloc | apply pw_below_drewN | apply below_drew1) | exact HB.out)⟩

end Go.Proofs.Ytfakedchahildaa.Q
