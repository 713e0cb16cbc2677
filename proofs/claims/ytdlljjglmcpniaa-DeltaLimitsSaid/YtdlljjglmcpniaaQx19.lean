-- Printed by wip/xprint.py over the translation, with contracts proved by hand among them. Lean checks it.
import Derived.Test.YtdlljjglmcpniaaQx0
import Derived.Test.YtdlljjglmcpniaaQx6
import Derived.Test.YtdlljjglmcpniaaQx16
import Derived.Test.YtdlljjglmcpniaaQx18
namespace Go.Proofs.Ytdlljjglmcpniaa.Q
open Go.RowKit Go.Proofs.YtdlljjglmcpniaaW.PrintWords Go.Proofs.YtdlljjglmcpniaaW.PrintLast Go.Proofs.YtdlljjglmcpniaaW.PrintMore
attribute [local go_sem] max2_int min2_int max_two min_two max_three min_three max_four min_four   -- for this text's walks alone
set_option linter.unusedVariables false
set_option linter.unusedSimpArgs false

/-! ### payrolllaw37_DeltaLimits: function 7 -/
def payrolllaw37_DeltaLimits.l0 : Nat → Int → List Int → Int → Option (Bool)
  | 0, _, _, _ => none
  | k + 1, x3, x4, x5 => if x5 < x3 then (if 0 ≤ x5 then (if x5 < (x4.length : Int) then (payrolllaw37_DeltaLimits.l0 k x3 (x4.set (x5 : Int).toNat 100) (wrap64 (x5 + 1))) else (none)) else (none)) else ((delta_Schedule.f k (wrap64 (x3 * 10)) x4 0 100000).bind fun bt473 => (if x3 > 1024 then (if bt473.2 = 3 then (if (bt473.1.length : Int) = 0 then ((payrolllaw37_awake.f k).bind fun t477 => (some t477)) else (none)) else (none)) else (if bt473.2 = 0 then (if (bt473.1.length : Int) = x3 then (if 0 < (bt473.1.length : Int) then (if (rd bt473.1 0) = 10 then (if 0 ≤ (wrap64 (x3 - 1)) then (if (wrap64 (x3 - 1)) < (bt473.1.length : Int) then (if (rd bt473.1 (wrap64 (x3 - 1))) = 10 then ((payrolllaw37_awake.f k).bind fun t480 => (some t480)) else (none)) else (none)) else (none)) else (none)) else (none)) else (none)) else (none))))
def payrolllaw37_DeltaLimits.f (k : Nat) (a0 : Int) : Option (Bool) := (paygen_Mod.f a0 3).bind fun t468 => (if 0 ≤ (wrap64 (1023 + t468)) then (if (wrap64 (1023 + t468) : Int).toNat ≤ 35184372088832 then (payrolllaw37_DeltaLimits.l0 k (wrap64 (1023 + t468)) (List.replicate (wrap64 (1023 + t468) : Int).toNat 0) 0) else (none)) else (none))
theorem payrolllaw37_DeltaLimits.mono_l : ∀ k, (∀ y0 y1 y2, LeO (payrolllaw37_DeltaLimits.l0 k y0 y1 y2) (payrolllaw37_DeltaLimits.l0 (k + 1) y0 y1 y2))
  | 0 => fun _ _ _ r h => by simp [payrolllaw37_DeltaLimits.l0] at h
  | k + 1 => by
    have ih0 := payrolllaw37_DeltaLimits.mono_l k
    · intro y0 y1 y2
      unfold payrolllaw37_DeltaLimits.l0
      repeat' first
      | (with_reducible exact ih0 _ _ _)
      | (with_reducible exact delta_Schedule.mono _ _ _ _ _)
      | (with_reducible exact payrolllaw37_awake.mono _)
      | (with_reducible exact LeO.refl _)
      | (with_reducible exact LeO.none _)
      | (with_reducible refine LeO.ite ?_ ?_)
      | (with_reducible refine LeO.bind ?_ (fun _ => ?_))
      | exact ih0 _ _ _
      | exact delta_Schedule.mono _ _ _ _ _
      | exact payrolllaw37_awake.mono _
      | exact LeO.none _
      | refine LeO.ite ?_ ?_
      | refine LeO.bind ?_ (fun _ => ?_)
theorem payrolllaw37_DeltaLimits.mono : ∀ a0 k, LeO (payrolllaw37_DeltaLimits.f k a0) (payrolllaw37_DeltaLimits.f (k + 1) a0) := by
  intro a0 k
  have ih0 := payrolllaw37_DeltaLimits.mono_l k
  unfold payrolllaw37_DeltaLimits.f
  repeat' first
      | (with_reducible exact ih0 _ _ _)
      | (with_reducible exact delta_Schedule.mono _ _ _ _ _)
      | (with_reducible exact payrolllaw37_awake.mono _)
      | (with_reducible exact LeO.refl _)
      | (with_reducible exact LeO.none _)
      | (with_reducible refine LeO.ite ?_ ?_)
      | (with_reducible refine LeO.bind ?_ (fun _ => ?_))
      | exact ih0 _ _ _
      | exact delta_Schedule.mono _ _ _ _ _
      | exact payrolllaw37_awake.mono _
      | exact LeO.none _
      | refine LeO.ite ?_ ?_
      | refine LeO.bind ?_ (fun _ => ?_)
set_option maxHeartbeats 8000000 in
set_option maxRecDepth 100000 in
theorem payrolllaw37_DeltaLimits.calls (k : Nat) (a0 : Int) (r : Bool) (w : World) (h : payrolllaw37_DeltaLimits.f k a0 = some r) :
    Calls Try.prog 7 #[.int .i64 a0] w fun e w' => e = .returned (.bool r) ∧ Below w.heap.size w w' := by
  have HB := Aside0.mk (Below.refl w.heap.size w)
  have H : ((paygen_Mod.f a0 3).bind fun t468 => (if 0 ≤ (wrap64 (1023 + t468)) then (if (wrap64 (1023 + t468) : Int).toNat ≤ 35184372088832 then (payrolllaw37_DeltaLimits.l0 k (wrap64 (1023 + t468)) (List.replicate (wrap64 (1023 + t468) : Int).toNat 0) 0) else (none)) else (none))) = some r := h
  clear h
  replace H := Option.bind_eq_some_iff.mp H
  obtain ⟨t468, A20, H⟩ := H
  replace H : (if 0 ≤ (wrap64 (1023 + t468)) then (if (wrap64 (1023 + t468) : Int).toNat ≤ 35184372088832 then (payrolllaw37_DeltaLimits.l0 k (wrap64 (1023 + t468)) (List.replicate (wrap64 (1023 + t468) : Int).toNat 0) 0) else (none)) else (none)) = some r := H
  have A2 := Aside0.mk A20
  clear A20
  obtain ⟨ji3, hji3⟩ : ∃ j_ : Int, (wrap64 (1023 + t468)) = j_ := ⟨_, rfl⟩
  replace H : (if 0 ≤ (ji3) then (if (ji3 : Int).toNat ≤ 35184372088832 then (payrolllaw37_DeltaLimits.l0 k ji3 (List.replicate (ji3 : Int).toNat 0) 0) else (none)) else (none)) = some r := by first | (rw [hji3] at H; exact H) | (simp only [hji3] at H ⊢; exact H)
  (try rw [hji3] at A2)
  have hji3w : (IntKind.i64.wrap (1023 + t468)) = ji3 := (i64_w _).trans hji3
  by_cases c4 : 0 ≤ (ji3)
  · rw [if_pos c4] at H
    have c4b0 := eq_true c4
    have c4b1 : decide (0 ≤ (ji3)) = true := decide_eq_true c4
    clear c4
    by_cases c5 : (ji3 : Int).toNat ≤ 35184372088832
    · rw [if_pos c5] at H
      have c5b0 := eq_true c5
      have c5b1 : decide ((ji3 : Int).toNat ≤ 35184372088832) = true := decide_eq_true c5
      clear c5
      obtain ⟨y469, hy469⟩ : ∃ y_ : List Int, y_ = (List.replicate (ji3 : Int).toNat 0) := ⟨_, rfl⟩
      replace H : (payrolllaw37_DeltaLimits.l0 k ji3 y469 0) = some r := by first | (rw [hy469]; with_reducible exact H) | (have H2_ := (Option.bind_some _ _).symm.trans H; rw [hy469]; with_reducible exact H2_) | (have H2_ := (Option.bind_some _ _).symm.trans H; with_reducible exact H2_) | with_reducible exact H | (rw [hy469]; exact H) | exact H
      have Ny469 := Aside0.mk hy469
      clear hy469
      have H' := Aside0.mk H
      clear H
      go_enter Try.func7, Try.ntmps7
      go_wp2_with (first | ((with_reducible refine gate_callee (f := 24) rfl ?_); refine goesL_ (some 9) rfl rfl Try.func24 (by kernel_rfl) rfl #[.int .i64 a0, .int .i64 3] rfl (by (try simp only [List.map_toArray, List.map_cons, List.map_nil]); first | done | rfl | (simp only [List.length_drop, List.length_take]; rfl)) ?_; (with_reducible refine (paygen_Mod.calls a0 3 t468 _ A2.out).mono ?_); rintro e w' ⟨rfl, ⟨nd, rfl⟩⟩; refine ⟨_, rfl, ?_⟩) | ((with_reducible refine gate_dst (N := 12) rfl ?_); (try (refine gate_guard (by rfl) ?_; dsimp only)); refine Kd.R_make (Kd.int .i64) _ 3 rfl (N := 12) rfl 22 _ _ rfl ji3 rfl rfl Try.underlying22 (.int .i64 0) 8 info3 rfl (by decide) (by omega) 0 (ok := fun _ => True) (okp := fun _ => True) rfl (fun _ hk => hk) trivial (of_decide_eq_true (by first | (with_reducible assumption) | assumption)) (Nat.le_trans (Nat.mul_le_mul_right _ (of_decide_eq_true (by first | (with_reducible assumption) | assumption) : ji3.toNat ≤ 35184372088832)) (by omega)) (Below.refl _ _) (Nat.le_refl _) ?_; intro v470 w6 ho7 hb hg_ hnew_; clear hg_ hnew_; (first | rw [← Ny469.out] at ho7 | (simp only [Int.reduceToNat] at ho7; rw [← Ny469.out] at ho7)); have n0_ := Aside0.mk (Kd.R_lower ho7 (below_size (by repeat (first | (with_reducible first | exact HB.out | apply below_alloc | apply pw_below_drewN | apply below_drew1) | exact HB.out)))); have n1_ := Aside0.mk (below_step (by repeat (first | (with_reducible first | exact HB.out | apply below_alloc | apply pw_below_drewN | apply below_drew1) | exact HB.out)) hb); clear HB; have HO471 := n0_; have HB := n1_; clear n0_ n1_; clear hb ho7))
      go_loopg [5] k (fun kq v5 w' => ∃ (x4_1 : List Int) (x5_1 : Int), v5 = .int .i64 x5_1 ∧ Aside0 (payrolllaw37_DeltaLimits.l0 kq ji3 x4_1 x5_1 = some r) ∧ Aside0 (kq ≤ k) ∧ Aside0 (Kd.R (Kd.int .i64) 3 w' w.heap.size (fun _ => True) v470 x4_1) ∧ Aside0 (Below w.heap.size w w'))
      case atStart => exact ⟨(y469), (0), (by first | rfl | (simp; done) | (simp [*]; done)), H', ⟨Nat.le_refl _⟩, ⟨by (with_reducible repeat (first | apply Kd.R_alloc | apply Kd.R_drewN | apply Kd.R_drew)); exact HO471.out⟩, ⟨by repeat (first | (with_reducible first | exact HB.out | apply below_alloc | apply pw_below_drewN | apply below_drew1) | exact HB.out)⟩⟩
      case round =>
        clear H'
        try clear c2
        try clear p2
        try clear c4
        try clear c4b0
        try clear c4b1
        try clear c5
        try clear c5b0
        try clear c5b1
        try clear p6
        try clear c7
        obtain ⟨x4_1, x5_1, rfl, HA, HK1, HO_4, HB⟩ := hrel
        cases gk with
        | zero => exact absurd HA.out (by simp [payrolllaw37_DeltaLimits.l0])
        | succ k1 =>
          have H := HA.out
          clear HA
          simp only [payrolllaw37_DeltaLimits.l0] at H
          by_cases c8 : x5_1 < ji3
          · rw [if_pos c8] at H
            have c8b0 : decide (x5_1 < ji3) = true := decide_eq_true c8
            clear c8
            by_cases c9 : 0 ≤ x5_1
            · rw [if_pos c9] at H
              have c9b0 : decide (0 ≤ x5_1) = true := decide_eq_true c9
              clear c9
              by_cases c10 : x5_1 < (x4_1.length : Int)
              · rw [if_pos c10] at H
                have c10b0 : decide (x5_1 < (x4_1.length : Int)) = true := decide_eq_true c10
                clear c10
                obtain ⟨y472, hy472⟩ : ∃ y_ : List Int, y_ = (x4_1.set (x5_1 : Int).toNat 100) := ⟨_, rfl⟩
                replace H : (payrolllaw37_DeltaLimits.l0 k1 ji3 y472 (wrap64 (x5_1 + 1))) = some r := by first | (rw [hy472]; with_reducible exact H) | (have H2_ := (Option.bind_some _ _).symm.trans H; rw [hy472]; with_reducible exact H2_) | (have H2_ := (Option.bind_some _ _).symm.trans H; with_reducible exact H2_) | with_reducible exact H | (rw [hy472]; exact H) | exact H
                have Ny472 := Aside0.mk hy472
                clear hy472
                have H' := Aside0.mk H
                clear H
                have p11 : 0 ≤ (x5_1 : Int) := of_decide_eq_true (by first | (with_reducible assumption) | assumption)
                have q11 : (x5_1 : Int) < ((x4_1.length : Int) : Int) := of_decide_eq_true (by first | (with_reducible assumption) | assumption)
                obtain ⟨go11, co11, eo11, gb11, gl11, cl11, HG11⟩ := Kd.R_form HO_4.out (by omega)
                (first | cases eo11 | (injection eo11 with ea_ en_ ec_; (first | subst ea_ | (injection ea_ with ea_; subst ea_)); subst ec_; clear en_))
                have GB11 := Aside0.mk gb11
                have GG11 := Aside0.mk HG11
                clear gb11 gl11 HG11
                obtain ⟨hx11_0, hf11_0⟩ := Kd.R_celln 0 HO_4.out (x5_1 : Int) p11 q11
                replace p11 := eq_true p11
                replace q11 := eq_true q11
                have HP12 := Kd.R_putg HO_4.out (x5_1 : Int) 100
                go_wp2_with (first | ((with_reducible refine gate_store (t := 3) (p := 20) rfl ?_); refine store_event (t := 3) (p := 20) (v := ?vo_w13) (w1 := (wr.setCell ⟨go11, (x5_1 : Int).toNat, none⟩ (.int .i64 100))) ?hg ?ho ?hn ?hr ?_; (case ho => rfl); (case hg => rfl); (case hn => rfl); (case hr => first | (go_simp; done) | (go_simp; rfl)); intro w13 hw; have hg : wr.grownBy w13 (some go11) := (by rw [hw]; exact HP12.2); have hp_ : Kd.R (Kd.int .i64) 3 w13 w.heap.size (fun _ => True) (.slice (some ⟨go11, 0, none⟩) x4_1.length co11) y472 := (by rw [hw, Ny472.out]; exact HP12.1); clear HP12; have n0_ := Aside0.mk (hp_); have n1_ := Aside0.mk ((by rw [hw]; exact below_set (HB.out) GB11.out : Below w.heap.size w w13)); clear HO_4; clear HB; have HO_4 := n0_; have HB := n1_; clear n0_ n1_; clear hg hw hp_))
                go_roundg k1
                case measure => have := HK1.out; omega
                case rel => exact ⟨(y472), (wrap64 (x5_1 + 1)), (by first | rfl | (simp; done) | (simp [*]; done)), H', ⟨by have := HK1.out; omega⟩, ⟨by (with_reducible repeat (first | apply Kd.R_alloc | apply Kd.R_drewN | apply Kd.R_drew)); exact HO_4.out⟩, ⟨by repeat (first | (with_reducible first | exact HB.out | apply below_alloc | apply pw_below_drewN | apply below_drew1) | exact HB.out)⟩⟩
              · rw [if_neg c10] at H
                exact absurd H (by simp)
            · rw [if_neg c9] at H
              exact absurd H (by simp)
          · rw [if_neg c8] at H
            have c8b0 : decide (x5_1 < ji3) = false := decide_eq_false c8
            clear c8
            replace H := Option.bind_eq_some_iff.mp H
            obtain ⟨⟨t473, t474⟩, A140, H⟩ := H
            replace H : (if ji3 > 1024 then (if t474 = 3 then (if (t473.length : Int) = 0 then ((payrolllaw37_awake.f k1).bind fun t477 => (some t477)) else (none)) else (none)) else (if t474 = 0 then (if (t473.length : Int) = ji3 then (if 0 < (t473.length : Int) then (if (rd t473 0) = 10 then (if 0 ≤ (wrap64 (ji3 - 1)) then (if (wrap64 (ji3 - 1)) < (t473.length : Int) then (if (rd t473 (wrap64 (ji3 - 1))) = 10 then ((payrolllaw37_awake.f k1).bind fun t480 => (some t480)) else (none)) else (none)) else (none)) else (none)) else (none)) else (none)) else (none))) = some r := H
            have A14 := Aside0.mk A140
            clear A140
            by_cases c15 : ji3 > 1024
            · rw [if_pos c15] at H
              have c15b0 : decide (1024 < ji3) = true := decide_eq_true c15
              clear c15
              by_cases c16 : t474 = 3
              · rw [if_pos c16] at H
                have c16b0 : (t474 == 3) = true := beq_iff_eq.mpr c16
                have c16b1 : (t474 != 3) = false := bne_eq_false_iff_eq.mpr c16
                clear c16
                by_cases c17 : (t473.length : Int) = 0
                · rw [if_pos c17] at H
                  have c17b0 : ((t473.length : Int) == 0) = true := beq_iff_eq.mpr c17
                  have c17b1 : ((t473.length : Int) != 0) = false := bne_eq_false_iff_eq.mpr c17
                  clear c17
                  replace H := Option.bind_eq_some_iff.mp H
                  obtain ⟨t477, A180, H⟩ := H
                  replace H : (some t477) = some r := H
                  have A18 := Aside0.mk A180
                  clear A180
                  obtain rfl := Option.some.inj H
                  obtain ⟨Ao19, co19, eo19⟩ := Kd.R_slice HO_4.out
                  subst eo19
                  go_wp2_with (first | ((with_reducible refine gate_callee (f := 26) rfl ?_); refine goesL_ (some 25) rfl rfl Try.func26 (by kernel_rfl) rfl #[.int .i64 (wrap64 (ji3 * 10)), .slice Ao19 x4_1.length co19, .int .i64 0, .int .i64 100000] rfl (by (try simp only [List.map_toArray, List.map_cons, List.map_nil]); first | done | (simp only [hji3]; rfl) | rfl | (simp only [List.length_drop, List.length_take]; rfl)) ?_; (with_reducible refine (delta_Schedule.calls k1 (wrap64 (ji3 * 10)) _ _ x4_1 0 100000 t473 t474 _ ?side1 ?side2 A14.out).mono ?_); (case side1 => repeat (first | exact (Kd.R_reads' HO_4.out).2.2 | (with_reducible refine Kd.C_alloc ?_ _) | (with_reducible refine Kd.C_drewN ?_ _) | (with_reducible refine Kd.C_drew ?_))); (case side2 => exact (Kd.R_reads' HO_4.out).2.1); rintro e w20 ⟨v475, rfl, ho0, hb⟩; refine ⟨_, rfl, ?_⟩; have n0_ := Aside0.mk (Kd.R_elder' (by (with_reducible repeat (first | apply Kd.R_alloc | apply Kd.R_drewN | apply Kd.R_drew)); exact HO_4.out) (Kd.R_base ho0) hb); have n1_ := Aside0.mk (Kd.R_lower (Kd.R_new' ho0 (Kd.R_lt (by (with_reducible repeat (first | apply Kd.R_alloc | apply Kd.R_drewN | apply Kd.R_drew)); exact HO_4.out))) (below_size (by repeat (first | (with_reducible first | exact HB.out | apply below_alloc | apply pw_below_drewN | apply below_drew1) | exact HB.out)))); have n2_ := Aside0.mk (below_step (by repeat (first | (with_reducible first | exact HB.out | apply below_alloc | apply pw_below_drewN | apply below_drew1) | exact HB.out)) hb); clear HO_4; clear HB; have HO_4 := n0_; have HO476 := n1_; have HB := n2_; clear n0_ n1_ n2_; (try clear hb); (try clear hb2); (try clear hk); (try clear hi); (try clear ho0); obtain ⟨Ao21, co21, eo21⟩ := Kd.R_slice HO476.out; subst eo21) | (go_at_call 12; (with_reducible refine (payrolllaw37_awake.calls k1  t477 _ A18.out).mono ?_); rintro e w22 ⟨rfl, hb⟩; have n0_ := Aside0.mk (Kd.R_below (by (with_reducible repeat (first | apply Kd.R_alloc | apply Kd.R_drewN | apply Kd.R_drew)); exact HO_4.out) hb); have n1_ := Aside0.mk (Kd.R_below (by (with_reducible repeat (first | apply Kd.R_alloc | apply Kd.R_drewN | apply Kd.R_drew)); exact HO476.out) hb); have n2_ := Aside0.mk (below_step (by repeat (first | (with_reducible first | exact HB.out | apply below_alloc | apply pw_below_drewN | apply below_drew1) | exact HB.out)) hb); clear HO_4; clear HO476; clear HB; have HO_4 := n0_; have HO476 := n1_; have HB := n2_; clear n0_ n1_ n2_; (try clear hb); (try clear hb2); (try clear hk); (try clear hi)))
                  go_ret
                  exact ⟨by first | rfl | (simp [errW_none, errW_some] <;> rfl) | (simp only [← hji3]; first | rfl | (simp [errW_none, errW_some] <;> rfl)) | (simp [*, errW_none, errW_some] <;> rfl), by repeat (first | (with_reducible first | exact HB.out | apply below_alloc | apply pw_below_drewN | apply below_drew1) | exact HB.out)⟩
                · rw [if_neg c17] at H
                  exact absurd H (by simp)
              · rw [if_neg c16] at H
                exact absurd H (by simp)
            · rw [if_neg c15] at H
              have c15b0 : decide (1024 < ji3) = false := decide_eq_false c15
              clear c15
              by_cases c23 : t474 = 0
              · rw [if_pos c23] at H
                have c23b0 : (t474 == 0) = true := beq_iff_eq.mpr c23
                have c23b1 : (t474 != 0) = false := bne_eq_false_iff_eq.mpr c23
                clear c23
                by_cases c24 : (t473.length : Int) = ji3
                · rw [if_pos c24] at H
                  have c24b0 : ((t473.length : Int) == ji3) = true := beq_iff_eq.mpr c24
                  have c24b1 : ((t473.length : Int) != ji3) = false := bne_eq_false_iff_eq.mpr c24
                  clear c24
                  by_cases c25 : 0 < (t473.length : Int)
                  · rw [if_pos c25] at H
                    have c25b0 : decide (0 < (t473.length : Int)) = true := decide_eq_true c25
                    have c25b1 : decide (0 < t473.length) = true := decide_eq_true (by omega)
                    clear c25
                    by_cases c26 : (rd t473 0) = 10
                    · rw [if_pos c26] at H
                      have c26b0 : ((rd t473 0) == 10) = true := beq_iff_eq.mpr c26
                      have c26b1 : ((rd t473 0) != 10) = false := bne_eq_false_iff_eq.mpr c26
                      clear c26
                      obtain ⟨ji27, hji27⟩ : ∃ j_ : Int, (wrap64 (ji3 - 1)) = j_ := ⟨_, rfl⟩
                      replace H : (if 0 ≤ (ji27) then (if (ji27) < (t473.length : Int) then (if (rd t473 (ji27)) = 10 then ((payrolllaw37_awake.f k1).bind fun t480 => (some t480)) else (none)) else (none)) else (none)) = some r := by first | (rw [hji27] at H; exact H) | (simp only [hji27] at H ⊢; exact H)
                      (try rw [hji27] at A14)
                      have hji27w : (IntKind.i64.wrap (ji3 - 1)) = ji27 := (i64_w _).trans hji27
                      by_cases c28 : 0 ≤ (ji27)
                      · rw [if_pos c28] at H
                        have c28b0 : decide (0 ≤ (ji27)) = true := decide_eq_true c28
                        clear c28
                        by_cases c29 : (ji27) < (t473.length : Int)
                        · rw [if_pos c29] at H
                          have c29b0 : decide ((ji27) < (t473.length : Int)) = true := decide_eq_true c29
                          clear c29
                          by_cases c30 : (rd t473 (ji27)) = 10
                          · rw [if_pos c30] at H
                            have c30b0 : ((rd t473 (ji27)) == 10) = true := beq_iff_eq.mpr c30
                            have c30b1 : ((rd t473 (ji27)) != 10) = false := bne_eq_false_iff_eq.mpr c30
                            clear c30
                            replace H := Option.bind_eq_some_iff.mp H
                            obtain ⟨t480, A310, H⟩ := H
                            replace H : (some t480) = some r := H
                            have A31 := Aside0.mk A310
                            clear A310
                            obtain rfl := Option.some.inj H
                            obtain ⟨Ao32, co32, eo32⟩ := Kd.R_slice HO_4.out
                            subst eo32
                            go_wp2_with (first | ((with_reducible refine gate_callee (f := 26) rfl ?_); refine goesL_ (some 25) rfl rfl Try.func26 (by kernel_rfl) rfl #[.int .i64 (wrap64 (ji3 * 10)), .slice Ao32 x4_1.length co32, .int .i64 0, .int .i64 100000] rfl (by (try simp only [List.map_toArray, List.map_cons, List.map_nil]); first | done | (simp only [hji3]; rfl) | rfl | (simp only [List.length_drop, List.length_take]; rfl)) ?_; (with_reducible refine (delta_Schedule.calls k1 (wrap64 (ji3 * 10)) _ _ x4_1 0 100000 t473 t474 _ ?side1 ?side2 A14.out).mono ?_); (case side1 => repeat (first | exact (Kd.R_reads' HO_4.out).2.2 | (with_reducible refine Kd.C_alloc ?_ _) | (with_reducible refine Kd.C_drewN ?_ _) | (with_reducible refine Kd.C_drew ?_))); (case side2 => exact (Kd.R_reads' HO_4.out).2.1); rintro e w33 ⟨v475, rfl, ho0, hb⟩; refine ⟨_, rfl, ?_⟩; have n0_ := Aside0.mk (Kd.R_elder' (by (with_reducible repeat (first | apply Kd.R_alloc | apply Kd.R_drewN | apply Kd.R_drew)); exact HO_4.out) (Kd.R_base ho0) hb); have n1_ := Aside0.mk (Kd.R_lower (Kd.R_new' ho0 (Kd.R_lt (by (with_reducible repeat (first | apply Kd.R_alloc | apply Kd.R_drewN | apply Kd.R_drew)); exact HO_4.out))) (below_size (by repeat (first | (with_reducible first | exact HB.out | apply below_alloc | apply pw_below_drewN | apply below_drew1) | exact HB.out)))); have n2_ := Aside0.mk (below_step (by repeat (first | (with_reducible first | exact HB.out | apply below_alloc | apply pw_below_drewN | apply below_drew1) | exact HB.out)) hb); clear HO_4; clear HB; have HO_4 := n0_; have HO476 := n1_; have HB := n2_; clear n0_ n1_ n2_; (try clear hb); (try clear hb2); (try clear hk); (try clear hi); (try clear ho0); obtain ⟨Ao34, co34, eo34⟩ := Kd.R_slice HO476.out; subst eo34; have p478 : 0 ≤ (0 : Int) := (by omega); have q478 : 0 < (t473.length : Int) := of_decide_eq_true (by first | (with_reducible assumption) | assumption); obtain ⟨ad478, e478, hx478_0⟩ := Kd.at_int (Kd.R_reads' HO476.out).2.2 0 p478 q478; cases e478; have qi478 : (0 < t473.length) = True := eq_true (by omega); (try rw [show ((0 : Int)).toNat = 0 from rfl] at hx478_0); (try rw [Addr.add_zero'] at hx478_0); replace p478 := eq_true p478; replace q478 := eq_true q478; have p479 : 0 ≤ ((ji27) : Int) := of_decide_eq_true (by first | (with_reducible assumption) | assumption); have q479 : (ji27) < (t473.length : Int) := of_decide_eq_true (by first | (with_reducible assumption) | assumption); obtain ⟨ad479, e479, hx479_0⟩ := Kd.at_int (Kd.R_reads' HO476.out).2.2 (ji27) p479 q479; obtain rfl : ad478 = ad479 := (by injection e479); replace p479 := eq_true p479; replace q479 := eq_true q479) | (go_at_call 12; (with_reducible refine (payrolllaw37_awake.calls k1  t480 _ A31.out).mono ?_); rintro e w35 ⟨rfl, hb⟩; have n0_ := Aside0.mk (Kd.R_below (by (with_reducible repeat (first | apply Kd.R_alloc | apply Kd.R_drewN | apply Kd.R_drew)); exact HO_4.out) hb); have n1_ := Aside0.mk (Kd.R_below (by (with_reducible repeat (first | apply Kd.R_alloc | apply Kd.R_drewN | apply Kd.R_drew)); exact HO476.out) hb); have n2_ := Aside0.mk (below_step (by repeat (first | (with_reducible first | exact HB.out | apply below_alloc | apply pw_below_drewN | apply below_drew1) | exact HB.out)) hb); clear HO_4; clear HO476; clear HB; have HO_4 := n0_; have HO476 := n1_; have HB := n2_; clear n0_ n1_ n2_; (try clear hb); (try clear hb2); (try clear hk); (try clear hi)))
                            go_ret
                            exact ⟨by first | rfl | (simp [errW_none, errW_some] <;> rfl) | (simp only [← hji3, ← hji27]; first | rfl | (simp [errW_none, errW_some] <;> rfl)) | (simp [*, errW_none, errW_some] <;> rfl), by repeat (first | (with_reducible first | exact HB.out | apply below_alloc | apply pw_below_drewN | apply below_drew1) | exact HB.out)⟩
                          · rw [if_neg c30] at H
                            exact absurd H (by simp)
                        · rw [if_neg c29] at H
                          exact absurd H (by simp)
                      · rw [if_neg c28] at H
                        exact absurd H (by simp)
                    · rw [if_neg c26] at H
                      exact absurd H (by simp)
                  · rw [if_neg c25] at H
                    exact absurd H (by simp)
                · rw [if_neg c24] at H
                  exact absurd H (by simp)
              · rw [if_neg c23] at H
                exact absurd H (by simp)
    · rw [if_neg c5] at H
      exact absurd H (by simp)
  · rw [if_neg c4] at H
    exact absurd H (by simp)

/-- THE ONE PURE STATEMENT of payrolllaw37_DeltaLimits: yours. -/
def payrolllaw37_DeltaLimits.Pure : Prop := ∀ (a0 : Int), (Lit.int .i64 a0).wf = true → ∃ k, payrolllaw37_DeltaLimits.f k a0 = some true
theorem payrolllaw37_DeltaLimits.walk (P : payrolllaw37_DeltaLimits.Pure) (a0 : Int) (w : World) (w0 : (Lit.int .i64 a0).wf = true) :
    Calls Try.prog 7 #[.int .i64 a0] w fun e w' => e = .returned (.bool true) ∧ Below w.heap.size w w' := by
  obtain ⟨k, h⟩ := P a0 w0
  refine (payrolllaw37_DeltaLimits.calls k a0 true w h).mono ?_
  rintro e w' ⟨rfl, hd⟩
  exact ⟨rfl, hd⟩

end Go.Proofs.Ytdlljjglmcpniaa.Q
