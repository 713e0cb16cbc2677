-- Printed by wip/xprint.py over the translation, with contracts proved by hand among them. Lean checks it.
import Derived.Test.YtdmcffabkeodpaaQx0
import Derived.Test.YtdmcffabkeodpaaQx2
import Derived.Test.YtdmcffabkeodpaaQx3
import Derived.Test.YtdmcffabkeodpaaQx4
import Derived.Test.YtdmcffabkeodpaaQx6
import Derived.Test.YtdmcffabkeodpaaQx10
namespace Go.Proofs.Ytdmcffabkeodpaa.Q
open Go.RowKit Go.Proofs.YtdmcffabkeodpaaW.PrintWords Go.Proofs.YtdmcffabkeodpaaW.PrintLast Go.Proofs.YtdmcffabkeodpaaW.PrintMore
attribute [local go_sem] max2_int min2_int max_two min_two max_three min_three max_four min_four   -- for this text's walks alone
set_option linter.unusedVariables false
set_option linter.unusedSimpArgs false

attribute [local go_sem high] eqA34
/-! ### payrolllaw39_ControlLimits: function 7 -/
def payrolllaw39_ControlLimits.l0 : Nat → Int → List (S29) → Int → Option (Bool)
  | 0, _, _, _ => none
  | k + 1, x3, x4, x5 => if x5 < x3 then (if 0 ≤ x5 then (if x5 < (x4.length : Int) then (payrolllaw39_ControlLimits.l0 k x3 (x4.set (x5 : Int).toNat (⟨1, 1⟩ : S29)) (wrap64 (x5 + 1))) else (none)) else (none)) else ((control_Of.f k x4).bind fun bt469 => ((control_Combine.f k x4).bind fun bt474 => ((control_Split.f k x4 x3).bind fun bt478 => (if x3 > 4096 then (if bt469.2.2.2 = 3 then (if bt474.2 = 3 then (if bt478.2 = 3 then ((control_Check.f k x4 x3 x3 x3).bind fun t482 => (if t482 = 3 then (if bt469.1 = 0 then (if (bt474.1.length : Int) = 0 then (if (bt478.1.length : Int) = 0 then ((payrolllaw39_awake.f k).bind fun t483 => (some t483)) else (none)) else (none)) else (none)) else (none))) else (none)) else (none)) else (none)) else (if bt469.2.2.2 = 0 then (if (bt469.1 == x3 && (bt469.2.1 == x3 && (bt469.2.2.1 == x3))) = true then (if bt474.2 = 0 then (if (bt474.1.length : Int) = 1 then (if 0 < (bt474.1.length : Int) then (if ((rd_T29 bt474.1 0).f1) = x3 then (if bt478.2 = 0 then (if (bt478.1.length : Int) = 1 then (if 0 < (bt478.1.length : Int) then (if ((rd_L2 bt478.1 0).length : Int) = x3 then ((payrolllaw39_awake.f k).bind fun t486 => (some t486)) else (none)) else (none)) else (none)) else (none)) else (none)) else (none)) else (none)) else (none)) else (none)) else (none))))))
def payrolllaw39_ControlLimits.f (k : Nat) (a0 : Int) : Option (Bool) := (paygen_Mod.f a0 3).bind fun t464 => (if 0 ≤ (wrap64 (4095 + t464)) then (if (wrap64 (4095 + t464) : Int).toNat ≤ 17592186044416 then (payrolllaw39_ControlLimits.l0 k (wrap64 (4095 + t464)) (List.replicate (wrap64 (4095 + t464) : Int).toNat z29) 0) else (none)) else (none))
theorem payrolllaw39_ControlLimits.mono_l : ∀ k, (∀ y0 y1 y2, LeO (payrolllaw39_ControlLimits.l0 k y0 y1 y2) (payrolllaw39_ControlLimits.l0 (k + 1) y0 y1 y2))
  | 0 => fun _ _ _ r h => by simp [payrolllaw39_ControlLimits.l0] at h
  | k + 1 => by
    have ih0 := payrolllaw39_ControlLimits.mono_l k
    · intro y0 y1 y2
      unfold payrolllaw39_ControlLimits.l0
      repeat' first
      | (with_reducible exact ih0 _ _ _)
      | (with_reducible exact control_Check.mono _ _ _ _ _)
      | (with_reducible exact control_Combine.mono _ _)
      | (with_reducible exact control_Of.mono _ _)
      | (with_reducible exact control_Split.mono _ _ _)
      | (with_reducible exact payrolllaw39_awake.mono _)
      | (with_reducible exact LeO.refl _)
      | (with_reducible exact LeO.none _)
      | (with_reducible refine LeO.ite ?_ ?_)
      | (with_reducible refine LeO.bind ?_ (fun _ => ?_))
      | exact ih0 _ _ _
      | exact control_Check.mono _ _ _ _ _
      | exact control_Combine.mono _ _
      | exact control_Of.mono _ _
      | exact control_Split.mono _ _ _
      | exact payrolllaw39_awake.mono _
      | exact LeO.none _
      | refine LeO.ite ?_ ?_
      | refine LeO.bind ?_ (fun _ => ?_)
theorem payrolllaw39_ControlLimits.mono : ∀ a0 k, LeO (payrolllaw39_ControlLimits.f k a0) (payrolllaw39_ControlLimits.f (k + 1) a0) := by
  intro a0 k
  have ih0 := payrolllaw39_ControlLimits.mono_l k
  unfold payrolllaw39_ControlLimits.f
  repeat' first
      | (with_reducible exact ih0 _ _ _)
      | (with_reducible exact control_Check.mono _ _ _ _ _)
      | (with_reducible exact control_Combine.mono _ _)
      | (with_reducible exact control_Of.mono _ _)
      | (with_reducible exact control_Split.mono _ _ _)
      | (with_reducible exact payrolllaw39_awake.mono _)
      | (with_reducible exact LeO.refl _)
      | (with_reducible exact LeO.none _)
      | (with_reducible refine LeO.ite ?_ ?_)
      | (with_reducible refine LeO.bind ?_ (fun _ => ?_))
      | exact ih0 _ _ _
      | exact control_Check.mono _ _ _ _ _
      | exact control_Combine.mono _ _
      | exact control_Of.mono _ _
      | exact control_Split.mono _ _ _
      | exact payrolllaw39_awake.mono _
      | exact LeO.none _
      | refine LeO.ite ?_ ?_
      | refine LeO.bind ?_ (fun _ => ?_)
set_option maxHeartbeats 8000000 in
set_option maxRecDepth 100000 in
theorem payrolllaw39_ControlLimits.calls (k : Nat) (a0 : Int) (r : Bool) (w : World) (h : payrolllaw39_ControlLimits.f k a0 = some r) :
    Calls Try.prog 7 #[.int .i64 a0] w fun e w' => e = .returned (.bool r) ∧ Below w.heap.size w w' := by
  have hu29 := Try.underlying29
  have hu34 := Try.underlying34
  have HB := Aside0.mk (Below.refl w.heap.size w)
  have H : ((paygen_Mod.f a0 3).bind fun t464 => (if 0 ≤ (wrap64 (4095 + t464)) then (if (wrap64 (4095 + t464) : Int).toNat ≤ 17592186044416 then (payrolllaw39_ControlLimits.l0 k (wrap64 (4095 + t464)) (List.replicate (wrap64 (4095 + t464) : Int).toNat z29) 0) else (none)) else (none))) = some r := h
  clear h
  replace H := Option.bind_eq_some_iff.mp H
  obtain ⟨t464, A20, H⟩ := H
  replace H : (if 0 ≤ (wrap64 (4095 + t464)) then (if (wrap64 (4095 + t464) : Int).toNat ≤ 17592186044416 then (payrolllaw39_ControlLimits.l0 k (wrap64 (4095 + t464)) (List.replicate (wrap64 (4095 + t464) : Int).toNat z29) 0) else (none)) else (none)) = some r := H
  have A2 := Aside0.mk A20
  clear A20
  obtain ⟨ji3, hji3⟩ : ∃ j_ : Int, (wrap64 (4095 + t464)) = j_ := ⟨_, rfl⟩
  replace H : (if 0 ≤ (ji3) then (if (ji3 : Int).toNat ≤ 17592186044416 then (payrolllaw39_ControlLimits.l0 k ji3 (List.replicate (ji3 : Int).toNat z29) 0) else (none)) else (none)) = some r := by first | (rw [hji3] at H; exact H) | (simp only [hji3] at H ⊢; exact H)
  (try rw [hji3] at A2)
  have hji3w : (IntKind.i64.wrap (4095 + t464)) = ji3 := (i64_w _).trans hji3
  by_cases c4 : 0 ≤ (ji3)
  · rw [if_pos c4] at H
    have c4b0 := eq_true c4
    have c4b1 : decide (0 ≤ (ji3)) = true := decide_eq_true c4
    clear c4
    by_cases c5 : (ji3 : Int).toNat ≤ 17592186044416
    · rw [if_pos c5] at H
      have c5b0 := eq_true c5
      have c5b1 : decide ((ji3 : Int).toNat ≤ 17592186044416) = true := decide_eq_true c5
      clear c5
      obtain ⟨y465, hy465⟩ : ∃ y_ : List (S29), y_ = (List.replicate (ji3 : Int).toNat z29) := ⟨_, rfl⟩
      replace H : (payrolllaw39_ControlLimits.l0 k ji3 y465 0) = some r := by first | (rw [hy465]; with_reducible exact H) | (have H2_ := (Option.bind_some _ _).symm.trans H; rw [hy465]; with_reducible exact H2_) | (have H2_ := (Option.bind_some _ _).symm.trans H; with_reducible exact H2_) | with_reducible exact H | (rw [hy465]; exact H) | exact H
      have Ny465 := Aside0.mk hy465
      clear hy465
      have H' := Aside0.mk H
      clear H
      go_enter Try.func7, Try.ntmps7
      go_wp2_with (first | ((with_reducible refine gate_callee (f := 18) rfl ?_); refine goesL_ (some 13) rfl rfl Try.func18 (by kernel_rfl) rfl #[.int .i64 a0, .int .i64 3] rfl (by (try simp only [List.map_toArray, List.map_cons, List.map_nil]); first | done | rfl | (simp only [List.length_drop, List.length_take]; rfl)) ?_; (with_reducible refine (paygen_Mod.calls a0 3 t464 _ A2.out).mono ?_); rintro e w' ⟨rfl, ⟨nd, rfl⟩⟩; refine ⟨_, rfl, ?_⟩) | ((with_reducible refine gate_dst (N := 16) rfl ?_); (try (refine gate_guard (by rfl) ?_; dsimp only)); refine Kd.R_make k29 _ 29 rfl (N := 16) rfl 25 _ _ rfl ji3 rfl rfl Try.underlying25 (.agg #[(.int .i64 0), (.int .i64 0)]) 16 info29 rfl (by decide) (by omega) z29 (ok := fun _ => True) (okp := fun _ => True) (k29_mkM _ _ _ z29 ) (fun _ hk => hk) trivial (of_decide_eq_true (by first | (with_reducible assumption) | assumption)) (Nat.le_trans (Nat.mul_le_mul_right _ (of_decide_eq_true (by first | (with_reducible assumption) | assumption) : ji3.toNat ≤ 17592186044416)) (by omega)) (Below.refl _ _) (Nat.le_refl _) ?_; intro v466 w6 ho7 hb hg_ hnew_; clear hg_ hnew_; (first | rw [← Ny465.out] at ho7 | (simp only [Int.reduceToNat] at ho7; rw [← Ny465.out] at ho7)); have n0_ := Aside0.mk (Kd.R_lower ho7 (below_size (by repeat (first | (with_reducible first | exact HB.out | apply below_alloc | apply pw_below_drewN | apply below_drew1) | exact HB.out)))); have n1_ := Aside0.mk (below_step (by repeat (first | (with_reducible first | exact HB.out | apply below_alloc | apply pw_below_drewN | apply below_drew1) | exact HB.out)) hb); clear HB; have HO467 := n0_; have HB := n1_; clear n0_ n1_; clear hb ho7))
      go_loopg [5] k (fun kq v5 w' => ∃ (x4_1 : List (S29)) (x5_1 : Int), v5 = .int .i64 x5_1 ∧ Aside0 (payrolllaw39_ControlLimits.l0 kq ji3 x4_1 x5_1 = some r) ∧ Aside0 (kq ≤ k) ∧ Aside0 (Kd.R k29 29 w' w.heap.size (fun _ => True) v466 x4_1) ∧ Aside0 (Below w.heap.size w w'))
      case atStart => exact ⟨(y465), (0), (by first | rfl | (simp; done) | (simp [*]; done)), H', ⟨Nat.le_refl _⟩, ⟨by (with_reducible repeat (first | apply Kd.R_alloc | apply Kd.R_drewN | apply Kd.R_drew)); exact HO467.out⟩, ⟨by repeat (first | (with_reducible first | exact HB.out | apply below_alloc | apply pw_below_drewN | apply below_drew1) | exact HB.out)⟩⟩
      case round =>
        clear H'
        try clear c1
        try clear p2
        try clear c4
        try clear c4b0
        try clear c4b1
        try clear c5
        try clear c5b0
        try clear c5b1
        try clear p6
        try clear c7
        obtain ⟨x4_1, x5_1, rfl, HA, HK1, HO_4, HB⟩ := hrel
        cases gk with
        | zero => exact absurd HA.out (by simp [payrolllaw39_ControlLimits.l0])
        | succ k1 =>
          have H := HA.out
          clear HA
          simp only [payrolllaw39_ControlLimits.l0] at H
          by_cases c8 : x5_1 < ji3
          · rw [if_pos c8] at H
            have c8b0 : decide (x5_1 < ji3) = true := decide_eq_true c8
            clear c8
            by_cases c9 : 0 ≤ x5_1
            · rw [if_pos c9] at H
              have c9b0 : decide (0 ≤ x5_1) = true := decide_eq_true c9
              clear c9
              by_cases c10 : x5_1 < (x4_1.length : Int)
              · rw [if_pos c10] at H
                have c10b0 : decide (x5_1 < (x4_1.length : Int)) = true := decide_eq_true c10
                clear c10
                obtain ⟨y468, hy468⟩ : ∃ y_ : List (S29), y_ = (x4_1.set (x5_1 : Int).toNat (⟨1, 1⟩ : S29)) := ⟨_, rfl⟩
                replace H : (payrolllaw39_ControlLimits.l0 k1 ji3 y468 (wrap64 (x5_1 + 1))) = some r := by first | (rw [hy468]; with_reducible exact H) | (have H2_ := (Option.bind_some _ _).symm.trans H; rw [hy468]; with_reducible exact H2_) | (have H2_ := (Option.bind_some _ _).symm.trans H; with_reducible exact H2_) | with_reducible exact H | (rw [hy468]; exact H) | exact H
                have Ny468 := Aside0.mk hy468
                clear hy468
                have H' := Aside0.mk H
                clear H
                have p11 : 0 ≤ (x5_1 : Int) := of_decide_eq_true (by first | (with_reducible assumption) | assumption)
                have q11 : (x5_1 : Int) < ((x4_1.length : Int) : Int) := of_decide_eq_true (by first | (with_reducible assumption) | assumption)
                obtain ⟨go11, co11, eo11, gb11, gl11, cl11, HG11⟩ := Kd.R_form HO_4.out (by omega)
                (first | cases eo11 | (injection eo11 with ea_ en_ ec_; (first | subst ea_ | (injection ea_ with ea_; subst ea_)); subst ec_; clear en_))
                have GB11 := Aside0.mk gb11
                have GG11 := Aside0.mk HG11
                clear gb11 gl11 HG11
                obtain ⟨ce11, hcl11, hM11, hcc11, hfr11⟩ := Kd.R_elem HO_4.out z29 (x5_1 : Int) p11 q11
                obtain rfl := k29_openM hM11
                have hx11_0 : wr.cell? ⟨go11, (x5_1 : Int).toNat * 2, none⟩ = some (.int .i64 ((rd_T29 x4_1 x5_1).f0)) := hcc11 0 _ rfl
                have hx11_1 : wr.cell? ⟨go11, (x5_1 : Int).toNat * 2 + 1, none⟩ = some (.int .i64 ((rd_T29 x4_1 x5_1).f1)) := hcc11 1 _ rfl
                have hf11_0 : wr.frozen? ⟨go11, (x5_1 : Int).toNat * 2, none⟩ = false := hfr11 0
                have hf11_1 : wr.frozen? ⟨go11, (x5_1 : Int).toNat * 2 + 1, none⟩ = false := hfr11 1
                clear hcl11 hcc11 hfr11 hM11
                replace p11 := eq_true p11
                replace q11 := eq_true q11
                have HX12 := Aside0.mk (show Kd.R k29 29 wr w.heap.size (fun _ => True) (.slice (some ⟨go11, 0, none⟩) x4_1.length co11) x4_1 from (by (with_reducible repeat (first | apply Kd.R_alloc | apply Kd.R_drewN | apply Kd.R_drew)); exact HO_4.out))
                obtain ⟨ce12, hcl12, hM12, hcc12, hfr12⟩ := Kd.R_elem HX12.out z29 (x5_1 : Int) (of_decide_eq_true (by first | (with_reducible assumption) | assumption)) (by have h_ : (x5_1 : Int) < ((x4_1.length : Int) : Int) := of_decide_eq_true (by first | (with_reducible assumption) | assumption); first | exact h_ | (have e_ := (Kd.R_reads' HO_4.out).1; omega) | simpa using h_)
                obtain rfl := k29_openM hM12
                have HP12 := Kd.R_seg HX12.out (x5_1 : Int) (of_decide_eq_true (by first | (with_reducible assumption) | assumption)) (by have h_ : (x5_1 : Int) < ((x4_1.length : Int) : Int) := of_decide_eq_true (by first | (with_reducible assumption) | assumption); first | exact h_ | (have e_ := (Kd.R_reads' HO_4.out).1; omega) | simpa using h_) (seg := [.int .i64 1, .int .i64 1]) (j := 0) hcl12 hcc12 (show 2 ≤ 2 from by decide) (x' := (⟨1, 1⟩ : S29)) (k29_mkM _ _ _ (⟨1, 1⟩ : S29) ) (fun _ hk => hk)
                have hx12_0 := hcc12 0 _ rfl
                (try simp only [show (k29).sz = 2 from rfl, Nat.mul_one, Nat.add_zero] at hx12_0)
                have hf12_0 := hfr12 0
                (try simp only [show (k29).sz = 2 from rfl, Nat.mul_one, Nat.add_zero] at hf12_0)
                have hx12_1 := hcc12 1 _ rfl
                (try simp only [show (k29).sz = 2 from rfl, Nat.mul_one, Nat.add_zero] at hx12_1)
                have hf12_1 := hfr12 1
                (try simp only [show (k29).sz = 2 from rfl, Nat.mul_one, Nat.add_zero] at hf12_1)
                clear hcl12 hcc12 hfr12 hM12
                go_wp2_with (first | ((with_reducible refine gate_store (t := 29) (p := 25) rfl ?_); refine store_event (t := 29) (p := 25) (v := ?vo_w13) (w1 := ((wr.setCell ⟨go11, (x5_1 : Int).toNat * 2, none⟩ (.int .i64 1)).setCell ⟨go11, (x5_1 : Int).toNat * 2 + 1, none⟩ (.int .i64 1))) ?hg ?ho ?hn ?hr ?_; (case ho => rfl); (case hg => rfl); (case hn => rfl); (case hr => first | (go_simp; done) | (go_simp; rfl)); intro w13 hw; have hg : wr.grownBy w13 (some go11) := (by rw [hw]; exact HP12.2); have hp_ : Kd.R k29 29 w13 w.heap.size (fun _ => True) (.slice (some ⟨go11, 0, none⟩) x4_1.length co11) y468 := (by rw [hw, Ny468.out]; exact HP12.1); clear HP12; have n0_ := Aside0.mk (hp_); have n1_ := Aside0.mk ((by rw [hw]; exact below_set (below_set (HB.out) GB11.out) GB11.out : Below w.heap.size w w13)); clear HO_4; clear HB; have HO_4 := n0_; have HB := n1_; clear n0_ n1_; clear hg hw hp_))
                go_roundg k1
                case measure => have := HK1.out; omega
                case rel => exact ⟨(y468), (wrap64 (x5_1 + 1)), (by first | rfl | (simp; done) | (simp [*]; done)), H', ⟨by have := HK1.out; omega⟩, ⟨by (with_reducible repeat (first | apply Kd.R_alloc | apply Kd.R_drewN | apply Kd.R_drew)); exact HO_4.out⟩, ⟨by repeat (first | (with_reducible first | exact HB.out | apply below_alloc | apply pw_below_drewN | apply below_drew1) | exact HB.out)⟩⟩
              · rw [if_neg c10] at H
                exact absurd H (by simp)
            · rw [if_neg c9] at H
              exact absurd H (by simp)
          · rw [if_neg c8] at H
            have c8b0 : decide (x5_1 < ji3) = false := decide_eq_false c8
            clear c8
            replace H := Option.bind_eq_some_iff.mp H
            obtain ⟨⟨t469, t470, t471, t472⟩, A140, H⟩ := H
            replace H : ((control_Combine.f k1 x4_1).bind fun bt474 => ((control_Split.f k1 x4_1 ji3).bind fun bt478 => (if ji3 > 4096 then (if t472 = 3 then (if bt474.2 = 3 then (if bt478.2 = 3 then ((control_Check.f k1 x4_1 ji3 ji3 ji3).bind fun t482 => (if t482 = 3 then (if t469 = 0 then (if (bt474.1.length : Int) = 0 then (if (bt478.1.length : Int) = 0 then ((payrolllaw39_awake.f k1).bind fun t483 => (some t483)) else (none)) else (none)) else (none)) else (none))) else (none)) else (none)) else (none)) else (if t472 = 0 then (if (t469 == ji3 && (t470 == ji3 && (t471 == ji3))) = true then (if bt474.2 = 0 then (if (bt474.1.length : Int) = 1 then (if 0 < (bt474.1.length : Int) then (if ((rd_T29 bt474.1 0).f1) = ji3 then (if bt478.2 = 0 then (if (bt478.1.length : Int) = 1 then (if 0 < (bt478.1.length : Int) then (if ((rd_L2 bt478.1 0).length : Int) = ji3 then ((payrolllaw39_awake.f k1).bind fun t486 => (some t486)) else (none)) else (none)) else (none)) else (none)) else (none)) else (none)) else (none)) else (none)) else (none)) else (none))))) = some r := H
            have A14 := Aside0.mk A140
            clear A140
            replace H := Option.bind_eq_some_iff.mp H
            obtain ⟨⟨t474, t475⟩, A150, H⟩ := H
            replace H : ((control_Split.f k1 x4_1 ji3).bind fun bt478 => (if ji3 > 4096 then (if t472 = 3 then (if t475 = 3 then (if bt478.2 = 3 then ((control_Check.f k1 x4_1 ji3 ji3 ji3).bind fun t482 => (if t482 = 3 then (if t469 = 0 then (if (t474.length : Int) = 0 then (if (bt478.1.length : Int) = 0 then ((payrolllaw39_awake.f k1).bind fun t483 => (some t483)) else (none)) else (none)) else (none)) else (none))) else (none)) else (none)) else (none)) else (if t472 = 0 then (if (t469 == ji3 && (t470 == ji3 && (t471 == ji3))) = true then (if t475 = 0 then (if (t474.length : Int) = 1 then (if 0 < (t474.length : Int) then (if ((rd_T29 t474 0).f1) = ji3 then (if bt478.2 = 0 then (if (bt478.1.length : Int) = 1 then (if 0 < (bt478.1.length : Int) then (if ((rd_L2 bt478.1 0).length : Int) = ji3 then ((payrolllaw39_awake.f k1).bind fun t486 => (some t486)) else (none)) else (none)) else (none)) else (none)) else (none)) else (none)) else (none)) else (none)) else (none)) else (none)))) = some r := H
            have A15 := Aside0.mk A150
            clear A150
            replace H := Option.bind_eq_some_iff.mp H
            obtain ⟨⟨t478, t481⟩, A160, H⟩ := H
            replace H : (if ji3 > 4096 then (if t472 = 3 then (if t475 = 3 then (if t481 = 3 then ((control_Check.f k1 x4_1 ji3 ji3 ji3).bind fun t482 => (if t482 = 3 then (if t469 = 0 then (if (t474.length : Int) = 0 then (if (t478.length : Int) = 0 then ((payrolllaw39_awake.f k1).bind fun t483 => (some t483)) else (none)) else (none)) else (none)) else (none))) else (none)) else (none)) else (none)) else (if t472 = 0 then (if (t469 == ji3 && (t470 == ji3 && (t471 == ji3))) = true then (if t475 = 0 then (if (t474.length : Int) = 1 then (if 0 < (t474.length : Int) then (if ((rd_T29 t474 0).f1) = ji3 then (if t481 = 0 then (if (t478.length : Int) = 1 then (if 0 < (t478.length : Int) then (if ((rd_L2 t478 0).length : Int) = ji3 then ((payrolllaw39_awake.f k1).bind fun t486 => (some t486)) else (none)) else (none)) else (none)) else (none)) else (none)) else (none)) else (none)) else (none)) else (none)) else (none))) = some r := H
            have A16 := Aside0.mk A160
            clear A160
            by_cases c17 : ji3 > 4096
            · rw [if_pos c17] at H
              have c17b0 : decide (4096 < ji3) = true := decide_eq_true c17
              clear c17
              by_cases c18 : t472 = 3
              · rw [if_pos c18] at H
                have c18b0 : (t472 == 3) = true := beq_iff_eq.mpr c18
                have c18b1 : (t472 != 3) = false := bne_eq_false_iff_eq.mpr c18
                clear c18
                by_cases c19 : t475 = 3
                · rw [if_pos c19] at H
                  have c19b0 : (t475 == 3) = true := beq_iff_eq.mpr c19
                  have c19b1 : (t475 != 3) = false := bne_eq_false_iff_eq.mpr c19
                  clear c19
                  by_cases c20 : t481 = 3
                  · rw [if_pos c20] at H
                    have c20b0 : (t481 == 3) = true := beq_iff_eq.mpr c20
                    have c20b1 : (t481 != 3) = false := bne_eq_false_iff_eq.mpr c20
                    clear c20
                    replace H := Option.bind_eq_some_iff.mp H
                    obtain ⟨t482, A210, H⟩ := H
                    replace H : (if t482 = 3 then (if t469 = 0 then (if (t474.length : Int) = 0 then (if (t478.length : Int) = 0 then ((payrolllaw39_awake.f k1).bind fun t483 => (some t483)) else (none)) else (none)) else (none)) else (none)) = some r := H
                    have A21 := Aside0.mk A210
                    clear A210
                    by_cases c22 : t482 = 3
                    · rw [if_pos c22] at H
                      have c22b0 : (t482 == 3) = true := beq_iff_eq.mpr c22
                      have c22b1 : (t482 != 3) = false := bne_eq_false_iff_eq.mpr c22
                      clear c22
                      by_cases c23 : t469 = 0
                      · rw [if_pos c23] at H
                        have c23b0 : (t469 == 0) = true := beq_iff_eq.mpr c23
                        have c23b1 : (t469 != 0) = false := bne_eq_false_iff_eq.mpr c23
                        clear c23
                        by_cases c24 : (t474.length : Int) = 0
                        · rw [if_pos c24] at H
                          have c24b0 : ((t474.length : Int) == 0) = true := beq_iff_eq.mpr c24
                          have c24b1 : ((t474.length : Int) != 0) = false := bne_eq_false_iff_eq.mpr c24
                          clear c24
                          by_cases c25 : (t478.length : Int) = 0
                          · rw [if_pos c25] at H
                            have c25b0 : ((t478.length : Int) == 0) = true := beq_iff_eq.mpr c25
                            have c25b1 : ((t478.length : Int) != 0) = false := bne_eq_false_iff_eq.mpr c25
                            clear c25
                            replace H := Option.bind_eq_some_iff.mp H
                            obtain ⟨t483, A260, H⟩ := H
                            replace H : (some t483) = some r := H
                            have A26 := Aside0.mk A260
                            clear A260
                            obtain rfl := Option.some.inj H
                            obtain ⟨Ao27, co27, eo27⟩ := Kd.R_slice HO_4.out
                            subst eo27
                            go_wp2_with (first | ((with_reducible refine gate_callee (f := 13) rfl ?_); refine goesL_ (some 28) rfl rfl Try.func13 (by kernel_rfl) rfl #[.slice Ao27 x4_1.length co27] rfl (by (try simp only [List.map_toArray, List.map_cons, List.map_nil]); first | done | rfl | (simp only [List.length_drop, List.length_take]; rfl)) ?_; (with_reducible refine (control_Of.calls k1 _ _ x4_1 t469 t470 t471 t472 _ ?side1 ?side2 A14.out).mono ?_); (case side1 => repeat (first | exact (Kd.R_reads' HO_4.out).2.2 | (with_reducible refine Kd.C_alloc ?_ _) | (with_reducible refine Kd.C_drewN ?_ _) | (with_reducible refine Kd.C_drew ?_))); (case side2 => exact (Kd.R_reads' HO_4.out).2.1); rintro e w28 ⟨rfl, hb⟩; refine ⟨_, rfl, ?_⟩; have n0_ := Aside0.mk (Kd.R_below (by (with_reducible repeat (first | apply Kd.R_alloc | apply Kd.R_drewN | apply Kd.R_drew)); exact HO_4.out) hb); have n1_ := Aside0.mk (below_step (by repeat (first | (with_reducible first | exact HB.out | apply below_alloc | apply pw_below_drewN | apply below_drew1) | exact HB.out)) hb); clear HO_4; clear HB; have HO_4 := n0_; have HB := n1_; clear n0_ n1_; (try clear hb); (try clear hb2); (try clear hk); (try clear hi)) | ((with_reducible refine gate_dst (N := 6) rfl ?_); (try (refine gate_guard (by rfl) ?_; dsimp only)); refine box_event ?hg (N := 6) ?hd (cs := #[.int .i64 0, .int .i64 0, .int .i64 0]) (t := 34) ?hr ?_; (case hd => rfl); (case hg => rfl); (case hr => first | (go_simp; done) | (go_simp; rfl)); intro gb473 hg w29 hbox hb; have n0_ := Aside0.mk (Kd.R_below (by (with_reducible repeat (first | apply Kd.R_alloc | apply Kd.R_drewN | apply Kd.R_drew)); exact HO_4.out) hb); have n1_ := Aside0.mk (below_step (by repeat (first | (with_reducible first | exact HB.out | apply below_alloc | apply pw_below_drewN | apply below_drew1) | exact HB.out)) hb); have n2_ := Aside0.mk (hbox); have n3_ := Aside0.mk ((by rw [hg]; exact (below_size (by repeat (first | (with_reducible first | exact HB.out | apply below_alloc | apply pw_below_drewN | apply below_drew1) | exact HB.out))) : w.heap.size ≤ gb473)); have n4_ := Aside0.mk ((by rw [hg]; exact (below_size (by repeat (first | (with_reducible first | exact HB.out | apply below_alloc | apply pw_below_drewN | apply below_drew1) | exact HB.out))) : w.heap.size ≤ gb473)); clear HO_4; clear HB; have HO_4 := n0_; have HB := n1_; have BK473 := n2_; have GW473 := n3_; have GE473 := n4_; clear n0_ n1_ n2_ n3_ n4_; clear hb hbox hg; have hcz30_0 : w29.cell? ⟨gb473, 0, none⟩ = some (.int .i64 0) := (blk_cell BK473.out 0).trans rfl; have hcz30_1 : w29.cell? ⟨gb473, 1, none⟩ = some (.int .i64 0) := (blk_cell BK473.out 1).trans rfl; have hcz30_2 : w29.cell? ⟨gb473, 2, none⟩ = some (.int .i64 0) := (blk_cell BK473.out 2).trans rfl; have hfz30_0 := blk_frozen BK473.out 0; have hfz30_1 := blk_frozen BK473.out 1; have hfz30_2 := blk_frozen BK473.out 2) | ((with_reducible refine gate_callee (f := 12) rfl ?_); refine goesL_ (some 33) rfl rfl Try.func12 (by kernel_rfl) rfl #[.slice Ao27 x4_1.length co27] rfl (by (try simp only [List.map_toArray, List.map_cons, List.map_nil]); first | done | rfl | (simp only [List.length_drop, List.length_take]; rfl)) ?_; (with_reducible refine (control_Combine.calls k1 _ _ x4_1 t474 t475 _ ?side1 ?side2 A15.out).mono ?_); (case side1 => refine (Kd.R_reads' (e := 29) (base := w.heap.size) (ok := fun k_ => True) (n := x4_1.length) (c := co27) ?_).2.2; exact (by (with_reducible repeat (first | apply Kd.R_alloc | apply Kd.R_drewN | apply Kd.R_drew)); exact (Kd.R_mono (Kd.R_far (p := ⟨gb473, 2, none⟩) (Kd.R_far (p := ⟨gb473, 1, none⟩) (Kd.R_far (p := ⟨gb473, 0, none⟩) (Kd.R_types HO_4.out BK473.out (by decide)) (fun _ hk => hk.2) (.int .i64 t469)) (fun _ hk => hk.2) (.int .i64 t470)) (fun _ hk => hk.2) (.int .i64 t471)) (fun _ h_ => h_.1)))); (case side2 => exact (Kd.R_reads' HO_4.out).2.1); rintro e w31 ⟨v476, rfl, ho0, hb⟩; refine ⟨_, rfl, ?_⟩; have n0_ := Aside0.mk (Kd.R_elder' (by (with_reducible repeat (first | apply Kd.R_alloc | apply Kd.R_drewN | apply Kd.R_drew)); exact (Kd.R_mono (Kd.R_far (p := ⟨gb473, 2, none⟩) (Kd.R_far (p := ⟨gb473, 1, none⟩) (Kd.R_far (p := ⟨gb473, 0, none⟩) (Kd.R_types HO_4.out BK473.out (by decide)) (fun _ hk => hk.2) (.int .i64 t469)) (fun _ hk => hk.2) (.int .i64 t470)) (fun _ hk => hk.2) (.int .i64 t471)) (fun _ h_ => h_.1))) (Kd.R_base ho0) hb); have n1_ := Aside0.mk (Kd.R_lower (Kd.R_new' ho0 (Kd.R_lt (by (with_reducible repeat (first | apply Kd.R_alloc | apply Kd.R_drewN | apply Kd.R_drew)); exact (Kd.R_mono (Kd.R_far (p := ⟨gb473, 2, none⟩) (Kd.R_far (p := ⟨gb473, 1, none⟩) (Kd.R_far (p := ⟨gb473, 0, none⟩) (Kd.R_types HO_4.out BK473.out (by decide)) (fun _ hk => hk.2) (.int .i64 t469)) (fun _ hk => hk.2) (.int .i64 t470)) (fun _ hk => hk.2) (.int .i64 t471)) (fun _ h_ => h_.1))))) (below_size (by repeat (first | (with_reducible first | exact HB.out | apply below_alloc | apply pw_below_drewN | apply below_drew1 | refine below_set ?_ GE473.out) | exact HB.out)))); have n2_ := Aside0.mk (blk_below (g := gb473) (o := .cells #[.int .i64 t469, .int .i64 t470, .int .i64 t471] 34 (0, 0)) (by (with_reducible repeat (first | refine blk_drewN ?_ _ | refine blk_drew ?_ | refine blk_alloc ?_ _)); refine blk_put (cs := #[.int .i64 t469, .int .i64 t470, .int .i64 0]) ?_ 2 _ rfl; (with_reducible repeat (first | refine blk_drewN ?_ _ | refine blk_drew ?_ | refine blk_alloc ?_ _)); refine blk_put (cs := #[.int .i64 t469, .int .i64 0, .int .i64 0]) ?_ 1 _ rfl; (with_reducible repeat (first | refine blk_drewN ?_ _ | refine blk_drew ?_ | refine blk_alloc ?_ _)); refine blk_put (cs := #[.int .i64 0, .int .i64 0, .int .i64 0]) ?_ 0 _ rfl; (with_reducible repeat (first | refine blk_drewN ?_ _ | refine blk_drew ?_ | refine blk_alloc ?_ _)); exact BK473.out) hb); have n3_ := Aside0.mk (below_step (by repeat (first | (with_reducible first | exact HB.out | apply below_alloc | apply pw_below_drewN | apply below_drew1 | refine below_set ?_ GE473.out) | exact HB.out)) hb); clear HO_4; clear BK473; clear HB; have HO_4 := n0_; have HO477 := n1_; have BK473 := n2_; have HB := n3_; clear n0_ n1_ n2_ n3_; (try clear hb); (try clear hb2); (try clear hk); (try clear hi); (try clear ho0)) | ((with_reducible refine gate_callee (f := 21) rfl ?_); refine goesL_ (some 39) rfl rfl Try.func21 (by kernel_rfl) rfl #[.slice Ao27 x4_1.length co27, .int .i64 ji3] rfl (by (try simp only [List.map_toArray, List.map_cons, List.map_nil]); first | done | (simp only [hji3]; rfl) | rfl | (simp only [List.length_drop, List.length_take]; rfl)) ?_; (with_reducible refine (control_Split.calls k1 (fun k_ => some k_ = (.slice Ao27 x4_1.length co27 : Value).ownBlock) _ _ x4_1 ji3 t478 t481 _ ?side1 A16.out).mono ?_); (case side1 => exact Kd.R_V (Kd.R_tight rfl (Kd.R_types (HO_4.out) BK473.out (by decide)))); rintro e w32 ⟨v479, rfl, ho0, hb⟩; refine ⟨_, rfl, ?_⟩; have n0_ := Aside0.mk (Kd.R_below (by (with_reducible repeat (first | apply Kd.R_alloc | apply Kd.R_drewN | apply Kd.R_drew)); exact HO_4.out) hb); have n1_ := Aside0.mk (Kd.R_below (by (with_reducible repeat (first | apply Kd.R_alloc | apply Kd.R_drewN | apply Kd.R_drew)); exact HO477.out) hb); have n2_ := Aside0.mk (Kd.S_lower (Kd.S_new' (Kd.S_new' (Kd.S_mono (ok' := fun k_ => True) ho0 (fun _ hk_ => trivial)) (Kd.R_lt (by (with_reducible repeat (first | apply Kd.R_alloc | apply Kd.R_drewN | apply Kd.R_drew)); exact HO_4.out))) (Kd.R_lt (by (with_reducible repeat (first | apply Kd.R_alloc | apply Kd.R_drewN | apply Kd.R_drew)); exact HO477.out))) (below_size (by repeat (first | (with_reducible first | exact HB.out | apply below_alloc | apply pw_below_drewN | apply below_drew1 | refine below_set ?_ GE473.out) | exact HB.out)))); have n3_ := Aside0.mk (blk_below (g := gb473) (o := .cells #[.int .i64 t469, .int .i64 t470, .int .i64 t471] 34 (0, 0)) (by (with_reducible repeat (first | refine blk_drewN ?_ _ | refine blk_drew ?_ | refine blk_alloc ?_ _)); exact BK473.out) hb); have n4_ := Aside0.mk (below_step (by repeat (first | (with_reducible first | exact HB.out | apply below_alloc | apply pw_below_drewN | apply below_drew1 | refine below_set ?_ GE473.out) | exact HB.out)) hb); clear HO_4; clear HO477; clear BK473; clear HB; have HO_4 := n0_; have HO477 := n1_; have HO480 := n2_; have BK473 := n3_; have HB := n4_; clear n0_ n1_ n2_ n3_ n4_; (try clear hb); (try clear hb2); (try clear hk); (try clear hi); (try clear ho0)) | (go_at_call 17; (with_reducible refine (control_Check.calls k1 _ _ x4_1 ji3 ji3 ji3 t482 _ ?side1 ?side2 A21.out).mono ?_); (case side1 => repeat (first | exact (Kd.R_reads' HO_4.out).2.2 | (with_reducible refine Kd.C_alloc ?_ _) | (with_reducible refine Kd.C_drewN ?_ _) | (with_reducible refine Kd.C_drew ?_))); (case side2 => exact (Kd.R_reads' HO_4.out).2.1); rintro e w33 ⟨rfl, hb⟩; have n0_ := Aside0.mk (Kd.R_below (by (with_reducible repeat (first | apply Kd.R_alloc | apply Kd.R_drewN | apply Kd.R_drew)); exact HO_4.out) hb); have n1_ := Aside0.mk (Kd.R_below (by (with_reducible repeat (first | apply Kd.R_alloc | apply Kd.R_drewN | apply Kd.R_drew)); exact HO477.out) hb); have n2_ := Aside0.mk (Kd.S_below (by (with_reducible repeat (first | apply Kd.S_alloc | apply Kd.S_drewN | apply Kd.S_drew)); exact HO480.out) hb); have n3_ := Aside0.mk (blk_below (g := gb473) (o := .cells #[.int .i64 t469, .int .i64 t470, .int .i64 t471] 34 (0, 0)) (by (with_reducible repeat (first | refine blk_drewN ?_ _ | refine blk_drew ?_ | refine blk_alloc ?_ _)); exact BK473.out) hb); have n4_ := Aside0.mk (below_step (by repeat (first | (with_reducible first | exact HB.out | apply below_alloc | apply pw_below_drewN | apply below_drew1 | refine below_set ?_ GE473.out) | exact HB.out)) hb); clear HO_4; clear HO477; clear HO480; clear BK473; clear HB; have HO_4 := n0_; have HO477 := n1_; have HO480 := n2_; have BK473 := n3_; have HB := n4_; clear n0_ n1_ n2_ n3_ n4_; (try clear hb); (try clear hb2); (try clear hk); (try clear hi); have hcz34_0 : w33.cell? ⟨gb473, 0, none⟩ = some (.int .i64 t469) := (blk_cell BK473.out 0).trans rfl; have hcz34_1 : w33.cell? ⟨gb473, 1, none⟩ = some (.int .i64 t470) := (blk_cell BK473.out 1).trans rfl; have hcz34_2 : w33.cell? ⟨gb473, 2, none⟩ = some (.int .i64 t471) := (blk_cell BK473.out 2).trans rfl; have hfz34_0 := blk_frozen BK473.out 0; have hfz34_1 := blk_frozen BK473.out 1; have hfz34_2 := blk_frozen BK473.out 2; obtain ⟨Ao35, co35, eo35⟩ := Kd.R_slice HO477.out; subst eo35; obtain ⟨Ao36, co36, eo36⟩ := Kd.S_slice HO480.out; subst eo36) | (go_at_call 15; (with_reducible refine (payrolllaw39_awake.calls k1  t483 _ A26.out).mono ?_); rintro e w37 ⟨rfl, hb⟩; have n0_ := Aside0.mk (Kd.R_below (by (with_reducible repeat (first | apply Kd.R_alloc | apply Kd.R_drewN | apply Kd.R_drew)); exact HO_4.out) hb); have n1_ := Aside0.mk (Kd.R_below (by (with_reducible repeat (first | apply Kd.R_alloc | apply Kd.R_drewN | apply Kd.R_drew)); exact HO477.out) hb); have n2_ := Aside0.mk (Kd.S_below (by (with_reducible repeat (first | apply Kd.S_alloc | apply Kd.S_drewN | apply Kd.S_drew)); exact HO480.out) hb); have n3_ := Aside0.mk (blk_below (g := gb473) (o := .cells #[.int .i64 t469, .int .i64 t470, .int .i64 t471] 34 (0, 0)) (by (with_reducible repeat (first | refine blk_drewN ?_ _ | refine blk_drew ?_ | refine blk_alloc ?_ _)); exact BK473.out) hb); have n4_ := Aside0.mk (below_step (by repeat (first | (with_reducible first | exact HB.out | apply below_alloc | apply pw_below_drewN | apply below_drew1 | refine below_set ?_ GE473.out) | exact HB.out)) hb); clear HO_4; clear HO477; clear HO480; clear BK473; clear HB; have HO_4 := n0_; have HO477 := n1_; have HO480 := n2_; have BK473 := n3_; have HB := n4_; clear n0_ n1_ n2_ n3_ n4_; (try clear hb); (try clear hb2); (try clear hk); (try clear hi)))
                            go_ret
                            exact ⟨by first | rfl | (simp [errW_none, errW_some] <;> rfl) | (simp only [← hji3]; first | rfl | (simp [errW_none, errW_some] <;> rfl)) | (simp [*, errW_none, errW_some] <;> rfl), by repeat (first | (with_reducible first | exact HB.out | apply below_alloc | apply pw_below_drewN | apply below_drew1 | refine below_set ?_ GE473.out) | exact HB.out)⟩
                          · rw [if_neg c25] at H
                            exact absurd H (by simp)
                        · rw [if_neg c24] at H
                          exact absurd H (by simp)
                      · rw [if_neg c23] at H
                        exact absurd H (by simp)
                    · rw [if_neg c22] at H
                      exact absurd H (by simp)
                  · rw [if_neg c20] at H
                    exact absurd H (by simp)
                · rw [if_neg c19] at H
                  exact absurd H (by simp)
              · rw [if_neg c18] at H
                exact absurd H (by simp)
            · rw [if_neg c17] at H
              have c17b0 : decide (4096 < ji3) = false := decide_eq_false c17
              clear c17
              by_cases c38 : t472 = 0
              · rw [if_pos c38] at H
                have c38b0 : (t472 == 0) = true := beq_iff_eq.mpr c38
                have c38b1 : (t472 != 0) = false := bne_eq_false_iff_eq.mpr c38
                clear c38
                by_cases c39 : (t469 == ji3 && (t470 == ji3 && (t471 == ji3))) = true
                · rw [if_pos c39] at H
                  have c39b0 : (t469 == ji3 && (t470 == ji3 && (t471 == ji3))) = true := c39
                  (try (have c39b1 : decide (t469 = ji3 && (t470 == ji3 && (t471 == ji3))) = true := by simpa using c39))
                  (try (have c39b2 : (t469 == ji3 && (t470 == ji3 && (t471 == ji3))) = true := by simpa using c39))
                  clear c39
                  by_cases c40 : t475 = 0
                  · rw [if_pos c40] at H
                    have c40b0 : (t475 == 0) = true := beq_iff_eq.mpr c40
                    have c40b1 : (t475 != 0) = false := bne_eq_false_iff_eq.mpr c40
                    clear c40
                    by_cases c41 : (t474.length : Int) = 1
                    · rw [if_pos c41] at H
                      have c41b0 : ((t474.length : Int) == 1) = true := beq_iff_eq.mpr c41
                      have c41b1 : ((t474.length : Int) != 1) = false := bne_eq_false_iff_eq.mpr c41
                      clear c41
                      by_cases c42 : 0 < (t474.length : Int)
                      · rw [if_pos c42] at H
                        have c42b0 : decide (0 < (t474.length : Int)) = true := decide_eq_true c42
                        have c42b1 : decide (0 < t474.length) = true := decide_eq_true (by omega)
                        clear c42
                        by_cases c43 : ((rd_T29 t474 0).f1) = ji3
                        · rw [if_pos c43] at H
                          have c43b0 : (((rd_T29 t474 0).f1) == ji3) = true := beq_iff_eq.mpr c43
                          have c43b1 : (((rd_T29 t474 0).f1) != ji3) = false := bne_eq_false_iff_eq.mpr c43
                          clear c43
                          by_cases c44 : t481 = 0
                          · rw [if_pos c44] at H
                            have c44b0 : (t481 == 0) = true := beq_iff_eq.mpr c44
                            have c44b1 : (t481 != 0) = false := bne_eq_false_iff_eq.mpr c44
                            clear c44
                            by_cases c45 : (t478.length : Int) = 1
                            · rw [if_pos c45] at H
                              have c45b0 : ((t478.length : Int) == 1) = true := beq_iff_eq.mpr c45
                              have c45b1 : ((t478.length : Int) != 1) = false := bne_eq_false_iff_eq.mpr c45
                              clear c45
                              by_cases c46 : 0 < (t478.length : Int)
                              · rw [if_pos c46] at H
                                have c46b0 : decide (0 < (t478.length : Int)) = true := decide_eq_true c46
                                have c46b1 : decide (0 < t478.length) = true := decide_eq_true (by omega)
                                clear c46
                                by_cases c47 : ((rd_L2 t478 0).length : Int) = ji3
                                · rw [if_pos c47] at H
                                  have c47b0 : (((rd_L2 t478 0).length : Int) == ji3) = true := beq_iff_eq.mpr c47
                                  have c47b1 : (((rd_L2 t478 0).length : Int) != ji3) = false := bne_eq_false_iff_eq.mpr c47
                                  clear c47
                                  replace H := Option.bind_eq_some_iff.mp H
                                  obtain ⟨t486, A480, H⟩ := H
                                  replace H : (some t486) = some r := H
                                  have A48 := Aside0.mk A480
                                  clear A480
                                  obtain rfl := Option.some.inj H
                                  obtain ⟨Ao49, co49, eo49⟩ := Kd.R_slice HO_4.out
                                  subst eo49
                                  go_wp2_with (first | ((with_reducible refine gate_callee (f := 13) rfl ?_); refine goesL_ (some 28) rfl rfl Try.func13 (by kernel_rfl) rfl #[.slice Ao49 x4_1.length co49] rfl (by (try simp only [List.map_toArray, List.map_cons, List.map_nil]); first | done | rfl | (simp only [List.length_drop, List.length_take]; rfl)) ?_; (with_reducible refine (control_Of.calls k1 _ _ x4_1 t469 t470 t471 t472 _ ?side1 ?side2 A14.out).mono ?_); (case side1 => repeat (first | exact (Kd.R_reads' HO_4.out).2.2 | (with_reducible refine Kd.C_alloc ?_ _) | (with_reducible refine Kd.C_drewN ?_ _) | (with_reducible refine Kd.C_drew ?_))); (case side2 => exact (Kd.R_reads' HO_4.out).2.1); rintro e w50 ⟨rfl, hb⟩; refine ⟨_, rfl, ?_⟩; have n0_ := Aside0.mk (Kd.R_below (by (with_reducible repeat (first | apply Kd.R_alloc | apply Kd.R_drewN | apply Kd.R_drew)); exact HO_4.out) hb); have n1_ := Aside0.mk (below_step (by repeat (first | (with_reducible first | exact HB.out | apply below_alloc | apply pw_below_drewN | apply below_drew1) | exact HB.out)) hb); clear HO_4; clear HB; have HO_4 := n0_; have HB := n1_; clear n0_ n1_; (try clear hb); (try clear hb2); (try clear hk); (try clear hi)) | ((with_reducible refine gate_dst (N := 6) rfl ?_); (try (refine gate_guard (by rfl) ?_; dsimp only)); refine box_event ?hg (N := 6) ?hd (cs := #[.int .i64 0, .int .i64 0, .int .i64 0]) (t := 34) ?hr ?_; (case hd => rfl); (case hg => rfl); (case hr => first | (go_simp; done) | (go_simp; rfl)); intro gb473 hg w51 hbox hb; have n0_ := Aside0.mk (Kd.R_below (by (with_reducible repeat (first | apply Kd.R_alloc | apply Kd.R_drewN | apply Kd.R_drew)); exact HO_4.out) hb); have n1_ := Aside0.mk (below_step (by repeat (first | (with_reducible first | exact HB.out | apply below_alloc | apply pw_below_drewN | apply below_drew1) | exact HB.out)) hb); have n2_ := Aside0.mk (hbox); have n3_ := Aside0.mk ((by rw [hg]; exact (below_size (by repeat (first | (with_reducible first | exact HB.out | apply below_alloc | apply pw_below_drewN | apply below_drew1) | exact HB.out))) : w.heap.size ≤ gb473)); have n4_ := Aside0.mk ((by rw [hg]; exact (below_size (by repeat (first | (with_reducible first | exact HB.out | apply below_alloc | apply pw_below_drewN | apply below_drew1) | exact HB.out))) : w.heap.size ≤ gb473)); clear HO_4; clear HB; have HO_4 := n0_; have HB := n1_; have BK473 := n2_; have GW473 := n3_; have GE473 := n4_; clear n0_ n1_ n2_ n3_ n4_; clear hb hbox hg; have hcz52_0 : w51.cell? ⟨gb473, 0, none⟩ = some (.int .i64 0) := (blk_cell BK473.out 0).trans rfl; have hcz52_1 : w51.cell? ⟨gb473, 1, none⟩ = some (.int .i64 0) := (blk_cell BK473.out 1).trans rfl; have hcz52_2 : w51.cell? ⟨gb473, 2, none⟩ = some (.int .i64 0) := (blk_cell BK473.out 2).trans rfl; have hfz52_0 := blk_frozen BK473.out 0; have hfz52_1 := blk_frozen BK473.out 1; have hfz52_2 := blk_frozen BK473.out 2) | ((with_reducible refine gate_callee (f := 12) rfl ?_); refine goesL_ (some 33) rfl rfl Try.func12 (by kernel_rfl) rfl #[.slice Ao49 x4_1.length co49] rfl (by (try simp only [List.map_toArray, List.map_cons, List.map_nil]); first | done | rfl | (simp only [List.length_drop, List.length_take]; rfl)) ?_; (with_reducible refine (control_Combine.calls k1 _ _ x4_1 t474 t475 _ ?side1 ?side2 A15.out).mono ?_); (case side1 => refine (Kd.R_reads' (e := 29) (base := w.heap.size) (ok := fun k_ => True) (n := x4_1.length) (c := co49) ?_).2.2; exact (by (with_reducible repeat (first | apply Kd.R_alloc | apply Kd.R_drewN | apply Kd.R_drew)); exact (Kd.R_mono (Kd.R_far (p := ⟨gb473, 2, none⟩) (Kd.R_far (p := ⟨gb473, 1, none⟩) (Kd.R_far (p := ⟨gb473, 0, none⟩) (Kd.R_types HO_4.out BK473.out (by decide)) (fun _ hk => hk.2) (.int .i64 t469)) (fun _ hk => hk.2) (.int .i64 t470)) (fun _ hk => hk.2) (.int .i64 t471)) (fun _ h_ => h_.1)))); (case side2 => exact (Kd.R_reads' HO_4.out).2.1); rintro e w53 ⟨v476, rfl, ho0, hb⟩; refine ⟨_, rfl, ?_⟩; have n0_ := Aside0.mk (Kd.R_elder' (by (with_reducible repeat (first | apply Kd.R_alloc | apply Kd.R_drewN | apply Kd.R_drew)); exact (Kd.R_mono (Kd.R_far (p := ⟨gb473, 2, none⟩) (Kd.R_far (p := ⟨gb473, 1, none⟩) (Kd.R_far (p := ⟨gb473, 0, none⟩) (Kd.R_types HO_4.out BK473.out (by decide)) (fun _ hk => hk.2) (.int .i64 t469)) (fun _ hk => hk.2) (.int .i64 t470)) (fun _ hk => hk.2) (.int .i64 t471)) (fun _ h_ => h_.1))) (Kd.R_base ho0) hb); have n1_ := Aside0.mk (Kd.R_lower (Kd.R_new' ho0 (Kd.R_lt (by (with_reducible repeat (first | apply Kd.R_alloc | apply Kd.R_drewN | apply Kd.R_drew)); exact (Kd.R_mono (Kd.R_far (p := ⟨gb473, 2, none⟩) (Kd.R_far (p := ⟨gb473, 1, none⟩) (Kd.R_far (p := ⟨gb473, 0, none⟩) (Kd.R_types HO_4.out BK473.out (by decide)) (fun _ hk => hk.2) (.int .i64 t469)) (fun _ hk => hk.2) (.int .i64 t470)) (fun _ hk => hk.2) (.int .i64 t471)) (fun _ h_ => h_.1))))) (below_size (by repeat (first | (with_reducible first | exact HB.out | apply below_alloc | apply pw_below_drewN | apply below_drew1 | refine below_set ?_ GE473.out) | exact HB.out)))); have n2_ := Aside0.mk (blk_below (g := gb473) (o := .cells #[.int .i64 t469, .int .i64 t470, .int .i64 t471] 34 (0, 0)) (by (with_reducible repeat (first | refine blk_drewN ?_ _ | refine blk_drew ?_ | refine blk_alloc ?_ _)); refine blk_put (cs := #[.int .i64 t469, .int .i64 t470, .int .i64 0]) ?_ 2 _ rfl; (with_reducible repeat (first | refine blk_drewN ?_ _ | refine blk_drew ?_ | refine blk_alloc ?_ _)); refine blk_put (cs := #[.int .i64 t469, .int .i64 0, .int .i64 0]) ?_ 1 _ rfl; (with_reducible repeat (first | refine blk_drewN ?_ _ | refine blk_drew ?_ | refine blk_alloc ?_ _)); refine blk_put (cs := #[.int .i64 0, .int .i64 0, .int .i64 0]) ?_ 0 _ rfl; (with_reducible repeat (first | refine blk_drewN ?_ _ | refine blk_drew ?_ | refine blk_alloc ?_ _)); exact BK473.out) hb); have n3_ := Aside0.mk (below_step (by repeat (first | (with_reducible first | exact HB.out | apply below_alloc | apply pw_below_drewN | apply below_drew1 | refine below_set ?_ GE473.out) | exact HB.out)) hb); clear HO_4; clear BK473; clear HB; have HO_4 := n0_; have HO477 := n1_; have BK473 := n2_; have HB := n3_; clear n0_ n1_ n2_ n3_; (try clear hb); (try clear hb2); (try clear hk); (try clear hi); (try clear ho0)) | ((with_reducible refine gate_callee (f := 21) rfl ?_); refine goesL_ (some 39) rfl rfl Try.func21 (by kernel_rfl) rfl #[.slice Ao49 x4_1.length co49, .int .i64 ji3] rfl (by (try simp only [List.map_toArray, List.map_cons, List.map_nil]); first | done | (simp only [hji3]; rfl) | rfl | (simp only [List.length_drop, List.length_take]; rfl)) ?_; (with_reducible refine (control_Split.calls k1 (fun k_ => some k_ = (.slice Ao49 x4_1.length co49 : Value).ownBlock) _ _ x4_1 ji3 t478 t481 _ ?side1 A16.out).mono ?_); (case side1 => exact Kd.R_V (Kd.R_tight rfl (Kd.R_types (HO_4.out) BK473.out (by decide)))); rintro e w54 ⟨v479, rfl, ho0, hb⟩; refine ⟨_, rfl, ?_⟩; have n0_ := Aside0.mk (Kd.R_below (by (with_reducible repeat (first | apply Kd.R_alloc | apply Kd.R_drewN | apply Kd.R_drew)); exact HO_4.out) hb); have n1_ := Aside0.mk (Kd.R_below (by (with_reducible repeat (first | apply Kd.R_alloc | apply Kd.R_drewN | apply Kd.R_drew)); exact HO477.out) hb); have n2_ := Aside0.mk (Kd.S_lower (Kd.S_new' (Kd.S_new' (Kd.S_mono (ok' := fun k_ => True) ho0 (fun _ hk_ => trivial)) (Kd.R_lt (by (with_reducible repeat (first | apply Kd.R_alloc | apply Kd.R_drewN | apply Kd.R_drew)); exact HO_4.out))) (Kd.R_lt (by (with_reducible repeat (first | apply Kd.R_alloc | apply Kd.R_drewN | apply Kd.R_drew)); exact HO477.out))) (below_size (by repeat (first | (with_reducible first | exact HB.out | apply below_alloc | apply pw_below_drewN | apply below_drew1 | refine below_set ?_ GE473.out) | exact HB.out)))); have n3_ := Aside0.mk (blk_below (g := gb473) (o := .cells #[.int .i64 t469, .int .i64 t470, .int .i64 t471] 34 (0, 0)) (by (with_reducible repeat (first | refine blk_drewN ?_ _ | refine blk_drew ?_ | refine blk_alloc ?_ _)); exact BK473.out) hb); have n4_ := Aside0.mk (below_step (by repeat (first | (with_reducible first | exact HB.out | apply below_alloc | apply pw_below_drewN | apply below_drew1 | refine below_set ?_ GE473.out) | exact HB.out)) hb); clear HO_4; clear HO477; clear BK473; clear HB; have HO_4 := n0_; have HO477 := n1_; have HO480 := n2_; have BK473 := n3_; have HB := n4_; clear n0_ n1_ n2_ n3_ n4_; (try clear hb); (try clear hb2); (try clear hk); (try clear hi); (try clear ho0); have hcz55_0 : w54.cell? ⟨gb473, 0, none⟩ = some (.int .i64 t469) := (blk_cell BK473.out 0).trans rfl; have hcz55_1 : w54.cell? ⟨gb473, 1, none⟩ = some (.int .i64 t470) := (blk_cell BK473.out 1).trans rfl; have hcz55_2 : w54.cell? ⟨gb473, 2, none⟩ = some (.int .i64 t471) := (blk_cell BK473.out 2).trans rfl; have hfz55_0 := blk_frozen BK473.out 0; have hfz55_1 := blk_frozen BK473.out 1; have hfz55_2 := blk_frozen BK473.out 2; obtain ⟨Ao56, co56, eo56⟩ := Kd.R_slice HO477.out; subst eo56; have p484 : 0 ≤ (0 : Int) := (by omega); have q484 : 0 < (t474.length : Int) := of_decide_eq_true (by first | (with_reducible assumption) | assumption); obtain ⟨ad484, e484, hx484_0, hx484_1⟩ := at_T29 (Kd.R_reads' HO477.out).2.2 0 p484 q484; cases e484; have qi484 : (0 < t474.length) = True := eq_true (by omega); (try rw [show ((0 : Int)).toNat = 0 from rfl] at hx484_0); (try rw [show 0 * 2 = 0 from rfl] at hx484_0); (try rw [Addr.add_zero'] at hx484_0); (try rw [show ((0 : Int)).toNat = 0 from rfl] at hx484_1); (try rw [show 0 * 2 = 0 from rfl] at hx484_1); (try rw [Addr.add_zero'] at hx484_1); replace p484 := eq_true p484; replace q484 := eq_true q484; obtain ⟨Ao57, co57, eo57⟩ := Kd.S_slice HO480.out; subst eo57; have p485 : 0 ≤ (0 : Int) := (by omega); have q485 : 0 < (t478.length : Int) := of_decide_eq_true (by first | (with_reducible assumption) | assumption); obtain ⟨ad485, A485_0, c485_0, e485, hx485_0, hl485_0, hi485_0⟩ := at_L2 (Kd.S_reads' HO480.out).2.2 0 p485 q485; cases e485; obtain ⟨ce485, hce485, hMe485, hcc485⟩ := Kd.S_get HO480.out [] 0 p485 (by first | exact q485 | exact of_decide_eq_true (by first | (with_reducible assumption) | assumption) | (have e_ := (Kd.S_reads' HO480.out).1; omega)); obtain ⟨ve485_0, rfl, ge485_0⟩ := hMe485; have hv485_0 := hcc485 0 _ rfl; rw [Nat.add_zero, show ((Kd.slice 29 k29)).sz = 1 from rfl, Nat.mul_one] at hv485_0; replace hv485_0 := Option.some.inj (hv485_0.symm.trans hx485_0); rw [hv485_0] at ge485_0; have HL485_0 := Aside0.mk (show Kd.R k29 29 _ _ _ _ (rd_L2 t478 0) from ge485_0); clear hv485_0 ge485_0; clear hcc485 hce485; have qi485 : (0 < t478.length) = True := eq_true (by omega); (try rw [show ((0 : Int)).toNat = 0 from rfl] at hx485_0); (try rw [Addr.add_zero'] at hx485_0); have HR485_0 := Aside0.mk hi485_0; have HC485_0 := Aside0.mk hl485_0; clear hi485_0 hl485_0; replace p485 := eq_true p485; replace q485 := eq_true q485) | (go_at_call 15; (with_reducible refine (payrolllaw39_awake.calls k1  t486 _ A48.out).mono ?_); rintro e w58 ⟨rfl, hb⟩; have n0_ := Aside0.mk (Kd.R_below (by (with_reducible repeat (first | apply Kd.R_alloc | apply Kd.R_drewN | apply Kd.R_drew)); exact HO_4.out) hb); have n1_ := Aside0.mk (Kd.R_below (by (with_reducible repeat (first | apply Kd.R_alloc | apply Kd.R_drewN | apply Kd.R_drew)); exact HO477.out) hb); have n2_ := Aside0.mk (Kd.S_below (by (with_reducible repeat (first | apply Kd.S_alloc | apply Kd.S_drewN | apply Kd.S_drew)); exact HO480.out) hb); have n3_ := Aside0.mk (Kd.R_below (by (with_reducible repeat (first | apply Kd.R_alloc | apply Kd.R_drewN | apply Kd.R_drew)); exact HL485_0.out) hb); have n4_ := Aside0.mk (blk_below (g := gb473) (o := .cells #[.int .i64 t469, .int .i64 t470, .int .i64 t471] 34 (0, 0)) (by (with_reducible repeat (first | refine blk_drewN ?_ _ | refine blk_drew ?_ | refine blk_alloc ?_ _)); exact BK473.out) hb); have n5_ := Aside0.mk (Kd.C_below (by repeat (first | (with_reducible exact HR485_0.out) | (with_reducible refine Kd.C_alloc ?_ _) | (with_reducible refine Kd.C_drewN ?_ _) | (with_reducible refine Kd.C_drew ?_) | exact HR485_0.out)) hb); have n6_ := Aside0.mk (below_step (by repeat (first | (with_reducible first | exact HB.out | apply below_alloc | apply pw_below_drewN | apply below_drew1 | refine below_set ?_ GE473.out) | exact HB.out)) hb); clear HO_4; clear HO477; clear HO480; clear HL485_0; clear BK473; clear HR485_0; clear HB; have HO_4 := n0_; have HO477 := n1_; have HO480 := n2_; have HL485_0 := n3_; have BK473 := n4_; have HR485_0 := n5_; have HB := n6_; clear n0_ n1_ n2_ n3_ n4_ n5_ n6_; (try clear hb); (try clear hb2); (try clear hk); (try clear hi)))
                                  go_ret
                                  exact ⟨by first | rfl | (simp [errW_none, errW_some] <;> rfl) | (simp only [← hji3]; first | rfl | (simp [errW_none, errW_some] <;> rfl)) | (simp [*, errW_none, errW_some] <;> rfl), by repeat (first | (with_reducible first | exact HB.out | apply below_alloc | apply pw_below_drewN | apply below_drew1 | refine below_set ?_ GE473.out) | exact HB.out)⟩
                                · rw [if_neg c47] at H
                                  exact absurd H (by simp)
                              · rw [if_neg c46] at H
                                exact absurd H (by simp)
                            · rw [if_neg c45] at H
                              exact absurd H (by simp)
                          · rw [if_neg c44] at H
                            exact absurd H (by simp)
                        · rw [if_neg c43] at H
                          exact absurd H (by simp)
                      · rw [if_neg c42] at H
                        exact absurd H (by simp)
                    · rw [if_neg c41] at H
                      exact absurd H (by simp)
                  · rw [if_neg c40] at H
                    exact absurd H (by simp)
                · rw [if_neg c39] at H
                  exact absurd H (by simp)
              · rw [if_neg c38] at H
                exact absurd H (by simp)
    · rw [if_neg c5] at H
      exact absurd H (by simp)
  · rw [if_neg c4] at H
    exact absurd H (by simp)

/-- THE ONE PURE STATEMENT of payrolllaw39_ControlLimits: yours. -/
def payrolllaw39_ControlLimits.Pure : Prop := ∀ (a0 : Int), (Lit.int .i64 a0).wf = true → ∃ k, payrolllaw39_ControlLimits.f k a0 = some true
theorem payrolllaw39_ControlLimits.walk (P : payrolllaw39_ControlLimits.Pure) (a0 : Int) (w : World) (w0 : (Lit.int .i64 a0).wf = true) :
    Calls Try.prog 7 #[.int .i64 a0] w fun e w' => e = .returned (.bool true) ∧ Below w.heap.size w w' := by
  obtain ⟨k, h⟩ := P a0 w0
  refine (payrolllaw39_ControlLimits.calls k a0 true w h).mono ?_
  rintro e w' ⟨rfl, hd⟩
  exact ⟨rfl, hd⟩

end Go.Proofs.Ytdmcffabkeodpaa.Q
