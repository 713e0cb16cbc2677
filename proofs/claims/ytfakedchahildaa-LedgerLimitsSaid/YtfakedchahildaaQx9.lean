-- Printed by wip/xprint.py over the translation, with contracts proved by hand among them. Lean checks it.
import Derived.Test.YtfakedchahildaaQx0
import Derived.Test.YtfakedchahildaaQx2
import Derived.Test.YtfakedchahildaaQx7
import Derived.Test.YtfakedchahildaaQx8
namespace Go.Proofs.Ytfakedchahildaa.Q
open Go.RowKit Go.Proofs.YtfakedchahildaaW.PrintWords Go.Proofs.YtfakedchahildaaW.PrintLast Go.Proofs.YtfakedchahildaaW.PrintMore
attribute [local go_sem] max2_int min2_int max_two min_two max_three min_three max_four min_four   -- for this text's walks alone
set_option linter.unusedVariables false
set_option linter.unusedSimpArgs false

/-! ### payrolllaw44_LedgerLimits: function 4 -/
def payrolllaw44_LedgerLimits.l0 : Nat → Int → List (S42) → Int → Option (Bool)
  | 0, _, _, _ => none
  | k + 1, x3, x4, x5 => if x5 < x3 then (if 0 ≤ x5 then (if x5 < (x4.length : Int) then (payrolllaw44_LedgerLimits.l0 k x3 (x4.set (x5 : Int).toNat (⟨1, wrap64 (100 + (Int.tmod x5 2)), wrap64 (1 - (wrap64 (2 * (Int.tmod x5 2))))⟩ : S42)) (wrap64 (x5 + 1))) else (none)) else (none)) else ((ledger_Merge.f x4).bind fun bt183 => ((ledger_Trial.f k x4).bind fun bt187 => (if x3 > 131072 then (if bt183.2 = 3 then (if bt187.2 = 3 then (if (bt183.1.length : Int) = 0 then (if (bt187.1.length : Int) = 0 then ((ledger_Balanced.f x4).bind fun t191 => (if t191 = true then (none) else ((payrolllaw44_awake.f k).bind fun t192 => (some t192)))) else (none)) else (none)) else (none)) else (none)) else (if bt183.2 = 0 then (if bt187.2 = 0 then (if (bt183.1.length : Int) = 2 then (if 0 < (bt183.1.length : Int) then (if ((rd_T42 bt183.1 0).f2) = (wrap64 (Int.tdiv (wrap64 (x3 + 1)) 2)) then (if 1 < (bt183.1.length : Int) then (if ((rd_T42 bt183.1 1).f2) = (wrap64 (-(wrap64 (Int.tdiv x3 2)))) then (if (bt187.1.length : Int) = 2 then ((ledger_Balanced.f x4).bind fun t195 => (if (t195 == ((Int.tmod x3 2) == 0)) = true then ((payrolllaw44_awake.f k).bind fun t196 => (some t196)) else (none))) else (none)) else (none)) else (none)) else (none)) else (none)) else (none)) else (none)) else (none)))))
def payrolllaw44_LedgerLimits.f (k : Nat) (a0 : Int) : Option (Bool) := (paygen_Mod.f a0 3).bind fun t178 => (if 0 ≤ (wrap64 (131071 + t178)) then (if (wrap64 (131071 + t178) : Int).toNat ≤ 11728124029610 then (payrolllaw44_LedgerLimits.l0 k (wrap64 (131071 + t178)) (List.replicate (wrap64 (131071 + t178) : Int).toNat z42) 0) else (none)) else (none))
theorem payrolllaw44_LedgerLimits.mono_l : ∀ k, (∀ y0 y1 y2, LeO (payrolllaw44_LedgerLimits.l0 k y0 y1 y2) (payrolllaw44_LedgerLimits.l0 (k + 1) y0 y1 y2))
  | 0 => fun _ _ _ r h => by simp [payrolllaw44_LedgerLimits.l0] at h
  | k + 1 => by
    have ih0 := payrolllaw44_LedgerLimits.mono_l k
    · intro y0 y1 y2
      unfold payrolllaw44_LedgerLimits.l0
      repeat' first
      | (with_reducible exact ih0 _ _ _)
      | (with_reducible exact ledger_Trial.mono _ _)
      | (with_reducible exact payrolllaw44_awake.mono _)
      | (with_reducible exact LeO.refl _)
      | (with_reducible exact LeO.none _)
      | (with_reducible refine LeO.ite ?_ ?_)
      | (with_reducible refine LeO.bind ?_ (fun _ => ?_))
      | exact ih0 _ _ _
      | exact ledger_Trial.mono _ _
      | exact payrolllaw44_awake.mono _
      | exact LeO.none _
      | refine LeO.ite ?_ ?_
      | refine LeO.bind ?_ (fun _ => ?_)
theorem payrolllaw44_LedgerLimits.mono : ∀ a0 k, LeO (payrolllaw44_LedgerLimits.f k a0) (payrolllaw44_LedgerLimits.f (k + 1) a0) := by
  intro a0 k
  have ih0 := payrolllaw44_LedgerLimits.mono_l k
  unfold payrolllaw44_LedgerLimits.f
  repeat' first
      | (with_reducible exact ih0 _ _ _)
      | (with_reducible exact ledger_Trial.mono _ _)
      | (with_reducible exact payrolllaw44_awake.mono _)
      | (with_reducible exact LeO.refl _)
      | (with_reducible exact LeO.none _)
      | (with_reducible refine LeO.ite ?_ ?_)
      | (with_reducible refine LeO.bind ?_ (fun _ => ?_))
      | exact ih0 _ _ _
      | exact ledger_Trial.mono _ _
      | exact payrolllaw44_awake.mono _
      | exact LeO.none _
      | refine LeO.ite ?_ ?_
      | refine LeO.bind ?_ (fun _ => ?_)
set_option maxHeartbeats 8000000 in
set_option maxRecDepth 100000 in
theorem payrolllaw44_LedgerLimits.calls (k : Nat) (a0 : Int) (r : Bool) (w : World) (h : payrolllaw44_LedgerLimits.f k a0 = some r) :
    Calls Try.prog 4 #[.int .i64 a0] w fun e w' => e = .returned (.bool r) ∧ Below w.heap.size w w' := by
  have hu42 := Try.underlying42
  have HB := Aside0.mk (Below.refl w.heap.size w)
  have H : ((paygen_Mod.f a0 3).bind fun t178 => (if 0 ≤ (wrap64 (131071 + t178)) then (if (wrap64 (131071 + t178) : Int).toNat ≤ 11728124029610 then (payrolllaw44_LedgerLimits.l0 k (wrap64 (131071 + t178)) (List.replicate (wrap64 (131071 + t178) : Int).toNat z42) 0) else (none)) else (none))) = some r := h
  clear h
  replace H := Option.bind_eq_some_iff.mp H
  obtain ⟨t178, A20, H⟩ := H
  replace H : (if 0 ≤ (wrap64 (131071 + t178)) then (if (wrap64 (131071 + t178) : Int).toNat ≤ 11728124029610 then (payrolllaw44_LedgerLimits.l0 k (wrap64 (131071 + t178)) (List.replicate (wrap64 (131071 + t178) : Int).toNat z42) 0) else (none)) else (none)) = some r := H
  have A2 := Aside0.mk A20
  clear A20
  obtain ⟨ji3, hji3⟩ : ∃ j_ : Int, (wrap64 (131071 + t178)) = j_ := ⟨_, rfl⟩
  replace H : (if 0 ≤ (ji3) then (if (ji3 : Int).toNat ≤ 11728124029610 then (payrolllaw44_LedgerLimits.l0 k ji3 (List.replicate (ji3 : Int).toNat z42) 0) else (none)) else (none)) = some r := by first | (rw [hji3] at H; exact H) | (simp only [hji3] at H ⊢; exact H)
  (try rw [hji3] at A2)
  have hji3w : (IntKind.i64.wrap (131071 + t178)) = ji3 := (i64_w _).trans hji3
  by_cases c4 : 0 ≤ (ji3)
  · rw [if_pos c4] at H
    have c4b0 := eq_true c4
    have c4b1 : decide (0 ≤ (ji3)) = true := decide_eq_true c4
    clear c4
    by_cases c5 : (ji3 : Int).toNat ≤ 11728124029610
    · rw [if_pos c5] at H
      have c5b0 := eq_true c5
      have c5b1 : decide ((ji3 : Int).toNat ≤ 11728124029610) = true := decide_eq_true c5
      clear c5
      obtain ⟨y179, hy179⟩ : ∃ y_ : List (S42), y_ = (List.replicate (ji3 : Int).toNat z42) := ⟨_, rfl⟩
      replace H : (payrolllaw44_LedgerLimits.l0 k ji3 y179 0) = some r := by first | (rw [hy179]; with_reducible exact H) | (have H2_ := (Option.bind_some _ _).symm.trans H; rw [hy179]; with_reducible exact H2_) | (have H2_ := (Option.bind_some _ _).symm.trans H; with_reducible exact H2_) | with_reducible exact H | (rw [hy179]; exact H) | exact H
      have Ny179 := Aside0.mk hy179
      clear hy179
      have H' := Aside0.mk H
      clear H
      go_enter Try.func4, Try.ntmps4
      go_wp2_with (first | ((with_reducible refine gate_callee (f := 17) rfl ?_); refine goesL_ (some 11) rfl rfl Try.func17 (by kernel_rfl) rfl #[.int .i64 a0, .int .i64 3] rfl (by (try simp only [List.map_toArray, List.map_cons, List.map_nil]); first | done | rfl | (simp only [List.length_drop, List.length_take]; rfl)) ?_; (with_reducible refine (paygen_Mod.calls a0 3 t178 _ A2.out).mono ?_); rintro e w' ⟨rfl, ⟨nd, rfl⟩⟩; refine ⟨_, rfl, ?_⟩) | ((with_reducible refine gate_dst (N := 14) rfl ?_); (try (refine gate_guard (by rfl) ?_; dsimp only)); refine Kd.R_make k42 _ 42 rfl (N := 14) rfl 32 _ _ rfl ji3 rfl rfl Try.underlying32 (.agg #[(.int .i64 0), (.int .i64 0), (.int .i64 0)]) 24 info42 rfl (by decide) (by omega) z42 (ok := fun _ => True) (okp := fun _ => True) (k42_mkM _ _ _ z42 ) (fun _ hk => hk) trivial (of_decide_eq_true (by first | (with_reducible assumption) | assumption)) (Nat.le_trans (Nat.mul_le_mul_right _ (of_decide_eq_true (by first | (with_reducible assumption) | assumption) : ji3.toNat ≤ 11728124029610)) (by omega)) (Below.refl _ _) (Nat.le_refl _) ?_; intro v180 w6 ho7 hb hg_ hnew_; clear hg_ hnew_; (first | rw [← Ny179.out] at ho7 | (simp only [Int.reduceToNat] at ho7; rw [← Ny179.out] at ho7)); have n0_ := Aside0.mk (Kd.R_lower ho7 (below_size (by repeat (first | (with_reducible first | exact HB.out | apply below_alloc | apply pw_below_drewN | apply below_drew1) | exact HB.out)))); have n1_ := Aside0.mk (below_step (by repeat (first | (with_reducible first | exact HB.out | apply below_alloc | apply pw_below_drewN | apply below_drew1) | exact HB.out)) hb); clear HB; have HO181 := n0_; have HB := n1_; clear n0_ n1_; clear hb ho7))
      go_loopg [5] k (fun kq v5 w' => ∃ (x4_1 : List (S42)) (x5_1 : Int), v5 = .int .i64 x5_1 ∧ Aside0 (payrolllaw44_LedgerLimits.l0 kq ji3 x4_1 x5_1 = some r) ∧ Aside0 (kq ≤ k) ∧ Aside0 (Kd.R k42 42 w' w.heap.size (fun _ => True) v180 x4_1) ∧ Aside0 (Below w.heap.size w w'))
      case atStart => exact ⟨(y179), (0), (by first | rfl | (simp; done) | (simp [*]; done)), H', ⟨Nat.le_refl _⟩, ⟨by (with_reducible repeat (first | apply Kd.R_alloc | apply Kd.R_drewN | apply Kd.R_drew)); exact HO181.out⟩, ⟨by repeat (first | (with_reducible first | exact HB.out | apply below_alloc | apply pw_below_drewN | apply below_drew1) | exact HB.out)⟩⟩
      case round =>
        clear H'
        try clear c1
        try clear p2
        try clear c4
        try clear c4b0
        try clear c4b1
        try clear c5
        try clear c5b0
        try clear c5b1
        try clear p6
        obtain ⟨x4_1, x5_1, rfl, HA, HK1, HO_4, HB⟩ := hrel
        cases gk with
        | zero => exact absurd HA.out (by simp [payrolllaw44_LedgerLimits.l0])
        | succ k1 =>
          have H := HA.out
          clear HA
          simp only [payrolllaw44_LedgerLimits.l0] at H
          by_cases c8 : x5_1 < ji3
          · rw [if_pos c8] at H
            have c8b0 : decide (x5_1 < ji3) = true := decide_eq_true c8
            clear c8
            by_cases c9 : 0 ≤ x5_1
            · rw [if_pos c9] at H
              have c9b0 : decide (0 ≤ x5_1) = true := decide_eq_true c9
              clear c9
              by_cases c10 : x5_1 < (x4_1.length : Int)
              · rw [if_pos c10] at H
                have c10b0 : decide (x5_1 < (x4_1.length : Int)) = true := decide_eq_true c10
                clear c10
                obtain ⟨y182, hy182⟩ : ∃ y_ : List (S42), y_ = (x4_1.set (x5_1 : Int).toNat (⟨1, wrap64 (100 + (Int.tmod x5_1 2)), wrap64 (1 - (wrap64 (2 * (Int.tmod x5_1 2))))⟩ : S42)) := ⟨_, rfl⟩
                replace H : (payrolllaw44_LedgerLimits.l0 k1 ji3 y182 (wrap64 (x5_1 + 1))) = some r := by first | (rw [hy182]; with_reducible exact H) | (have H2_ := (Option.bind_some _ _).symm.trans H; rw [hy182]; with_reducible exact H2_) | (have H2_ := (Option.bind_some _ _).symm.trans H; with_reducible exact H2_) | with_reducible exact H | (rw [hy182]; exact H) | exact H
                have Ny182 := Aside0.mk hy182
                clear hy182
                have H' := Aside0.mk H
                clear H
                have p11 : 0 ≤ (x5_1 : Int) := of_decide_eq_true (by first | (with_reducible assumption) | assumption)
                have q11 : (x5_1 : Int) < ((x4_1.length : Int) : Int) := of_decide_eq_true (by first | (with_reducible assumption) | assumption)
                obtain ⟨go11, co11, eo11, gb11, gl11, cl11, HG11⟩ := Kd.R_form HO_4.out (by omega)
                (first | cases eo11 | (injection eo11 with ea_ en_ ec_; (first | subst ea_ | (injection ea_ with ea_; subst ea_)); subst ec_; clear en_))
                have GB11 := Aside0.mk gb11
                have GG11 := Aside0.mk HG11
                clear gb11 gl11 HG11
                obtain ⟨ce11, hcl11, hM11, hcc11, hfr11⟩ := Kd.R_elem HO_4.out z42 (x5_1 : Int) p11 q11
                obtain rfl := k42_openM hM11
                have hx11_0 : wr.cell? ⟨go11, (x5_1 : Int).toNat * 3, none⟩ = some (.int .i64 ((rd_T42 x4_1 x5_1).f0)) := hcc11 0 _ rfl
                have hx11_1 : wr.cell? ⟨go11, (x5_1 : Int).toNat * 3 + 1, none⟩ = some (.int .i64 ((rd_T42 x4_1 x5_1).f1)) := hcc11 1 _ rfl
                have hx11_2 : wr.cell? ⟨go11, (x5_1 : Int).toNat * 3 + 2, none⟩ = some (.int .i64 ((rd_T42 x4_1 x5_1).f2)) := hcc11 2 _ rfl
                have hf11_0 : wr.frozen? ⟨go11, (x5_1 : Int).toNat * 3, none⟩ = false := hfr11 0
                have hf11_1 : wr.frozen? ⟨go11, (x5_1 : Int).toNat * 3 + 1, none⟩ = false := hfr11 1
                have hf11_2 : wr.frozen? ⟨go11, (x5_1 : Int).toNat * 3 + 2, none⟩ = false := hfr11 2
                clear hcl11 hcc11 hfr11 hM11
                replace p11 := eq_true p11
                replace q11 := eq_true q11
                have HX12 := Aside0.mk (show Kd.R k42 42 wr w.heap.size (fun _ => True) (.slice (some ⟨go11, 0, none⟩) x4_1.length co11) x4_1 from (by (with_reducible repeat (first | apply Kd.R_alloc | apply Kd.R_drewN | apply Kd.R_drew)); exact HO_4.out))
                obtain ⟨ce12, hcl12, hM12, hcc12, hfr12⟩ := Kd.R_elem HX12.out z42 (x5_1 : Int) (of_decide_eq_true (by first | (with_reducible assumption) | assumption)) (by have h_ : (x5_1 : Int) < ((x4_1.length : Int) : Int) := of_decide_eq_true (by first | (with_reducible assumption) | assumption); first | exact h_ | (have e_ := (Kd.R_reads' HO_4.out).1; omega) | simpa using h_)
                obtain rfl := k42_openM hM12
                have HP12 := Kd.R_seg HX12.out (x5_1 : Int) (of_decide_eq_true (by first | (with_reducible assumption) | assumption)) (by have h_ : (x5_1 : Int) < ((x4_1.length : Int) : Int) := of_decide_eq_true (by first | (with_reducible assumption) | assumption); first | exact h_ | (have e_ := (Kd.R_reads' HO_4.out).1; omega) | simpa using h_) (seg := [.int .i64 1, .int .i64 (wrap64 (100 + (Int.tmod x5_1 2))), .int .i64 (wrap64 (1 - (wrap64 (2 * (Int.tmod x5_1 2)))))]) (j := 0) hcl12 hcc12 (show 3 ≤ 3 from by decide) (x' := (⟨1, wrap64 (100 + (Int.tmod x5_1 2)), wrap64 (1 - (wrap64 (2 * (Int.tmod x5_1 2))))⟩ : S42)) (k42_mkM _ _ _ (⟨1, wrap64 (100 + (Int.tmod x5_1 2)), wrap64 (1 - (wrap64 (2 * (Int.tmod x5_1 2))))⟩ : S42) ) (fun _ hk => hk)
                have hx12_0 := hcc12 0 _ rfl
                (try simp only [show (k42).sz = 3 from rfl, Nat.mul_one, Nat.add_zero] at hx12_0)
                have hf12_0 := hfr12 0
                (try simp only [show (k42).sz = 3 from rfl, Nat.mul_one, Nat.add_zero] at hf12_0)
                have hx12_1 := hcc12 1 _ rfl
                (try simp only [show (k42).sz = 3 from rfl, Nat.mul_one, Nat.add_zero] at hx12_1)
                have hf12_1 := hfr12 1
                (try simp only [show (k42).sz = 3 from rfl, Nat.mul_one, Nat.add_zero] at hf12_1)
                have hx12_2 := hcc12 2 _ rfl
                (try simp only [show (k42).sz = 3 from rfl, Nat.mul_one, Nat.add_zero] at hx12_2)
                have hf12_2 := hfr12 2
                (try simp only [show (k42).sz = 3 from rfl, Nat.mul_one, Nat.add_zero] at hf12_2)
                clear hcl12 hcc12 hfr12 hM12
                go_wp2_with (first | ((with_reducible refine gate_store (t := 42) (p := 30) rfl ?_); refine store_event (t := 42) (p := 30) (v := ?vo_w13) (w1 := (((wr.setCell ⟨go11, (x5_1 : Int).toNat * 3, none⟩ (.int .i64 1)).setCell ⟨go11, (x5_1 : Int).toNat * 3 + 1, none⟩ (.int .i64 (wrap64 (100 + (Int.tmod x5_1 2))))).setCell ⟨go11, (x5_1 : Int).toNat * 3 + 2, none⟩ (.int .i64 (wrap64 (1 - (wrap64 (2 * (Int.tmod x5_1 2)))))))) ?hg ?ho ?hn ?hr ?_; (case ho => rfl); (case hg => rfl); (case hn => rfl); (case hr => first | (go_simp; done) | (go_simp; rfl)); intro w13 hw; have hg : wr.grownBy w13 (some go11) := (by rw [hw]; exact HP12.2); have hp_ : Kd.R k42 42 w13 w.heap.size (fun _ => True) (.slice (some ⟨go11, 0, none⟩) x4_1.length co11) y182 := (by rw [hw, Ny182.out]; exact HP12.1); clear HP12; have n0_ := Aside0.mk (hp_); have n1_ := Aside0.mk ((by rw [hw]; exact below_set (below_set (below_set (HB.out) GB11.out) GB11.out) GB11.out : Below w.heap.size w w13)); clear HO_4; clear HB; have HO_4 := n0_; have HB := n1_; clear n0_ n1_; clear hg hw hp_))
                go_roundg k1
                case measure => have := HK1.out; omega
                case rel => exact ⟨(y182), (wrap64 (x5_1 + 1)), (by first | rfl | (simp; done) | (simp [*]; done)), H', ⟨by have := HK1.out; omega⟩, ⟨by (with_reducible repeat (first | apply Kd.R_alloc | apply Kd.R_drewN | apply Kd.R_drew)); exact HO_4.out⟩, ⟨by repeat (first | (with_reducible first | exact HB.out | apply below_alloc | apply pw_below_drewN | apply below_drew1) | exact HB.out)⟩⟩
              · rw [if_neg c10] at H
                exact absurd H (by simp)
            · rw [if_neg c9] at H
              exact absurd H (by simp)
          · rw [if_neg c8] at H
            have c8b0 : decide (x5_1 < ji3) = false := decide_eq_false c8
            clear c8
            replace H := Option.bind_eq_some_iff.mp H
            obtain ⟨⟨t183, t184⟩, A140, H⟩ := H
            replace H : ((ledger_Trial.f k1 x4_1).bind fun bt187 => (if ji3 > 131072 then (if t184 = 3 then (if bt187.2 = 3 then (if (t183.length : Int) = 0 then (if (bt187.1.length : Int) = 0 then ((ledger_Balanced.f x4_1).bind fun t191 => (if t191 = true then (none) else ((payrolllaw44_awake.f k1).bind fun t192 => (some t192)))) else (none)) else (none)) else (none)) else (none)) else (if t184 = 0 then (if bt187.2 = 0 then (if (t183.length : Int) = 2 then (if 0 < (t183.length : Int) then (if ((rd_T42 t183 0).f2) = (wrap64 (Int.tdiv (wrap64 (ji3 + 1)) 2)) then (if 1 < (t183.length : Int) then (if ((rd_T42 t183 1).f2) = (wrap64 (-(wrap64 (Int.tdiv ji3 2)))) then (if (bt187.1.length : Int) = 2 then ((ledger_Balanced.f x4_1).bind fun t195 => (if (t195 == ((Int.tmod ji3 2) == 0)) = true then ((payrolllaw44_awake.f k1).bind fun t196 => (some t196)) else (none))) else (none)) else (none)) else (none)) else (none)) else (none)) else (none)) else (none)) else (none)))) = some r := H
            have A14 := Aside0.mk A140
            clear A140
            replace H := Option.bind_eq_some_iff.mp H
            obtain ⟨⟨t187, t188⟩, A150, H⟩ := H
            replace H : (if ji3 > 131072 then (if t184 = 3 then (if t188 = 3 then (if (t183.length : Int) = 0 then (if (t187.length : Int) = 0 then ((ledger_Balanced.f x4_1).bind fun t191 => (if t191 = true then (none) else ((payrolllaw44_awake.f k1).bind fun t192 => (some t192)))) else (none)) else (none)) else (none)) else (none)) else (if t184 = 0 then (if t188 = 0 then (if (t183.length : Int) = 2 then (if 0 < (t183.length : Int) then (if ((rd_T42 t183 0).f2) = (wrap64 (Int.tdiv (wrap64 (ji3 + 1)) 2)) then (if 1 < (t183.length : Int) then (if ((rd_T42 t183 1).f2) = (wrap64 (-(wrap64 (Int.tdiv ji3 2)))) then (if (t187.length : Int) = 2 then ((ledger_Balanced.f x4_1).bind fun t195 => (if (t195 == ((Int.tmod ji3 2) == 0)) = true then ((payrolllaw44_awake.f k1).bind fun t196 => (some t196)) else (none))) else (none)) else (none)) else (none)) else (none)) else (none)) else (none)) else (none)) else (none))) = some r := H
            have A15 := Aside0.mk A150
            clear A150
            by_cases c16 : ji3 > 131072
            · rw [if_pos c16] at H
              have c16b0 : decide (131072 < ji3) = true := decide_eq_true c16
              clear c16
              by_cases c17 : t184 = 3
              · rw [if_pos c17] at H
                have c17b0 : (t184 == 3) = true := beq_iff_eq.mpr c17
                have c17b1 : (t184 != 3) = false := bne_eq_false_iff_eq.mpr c17
                clear c17
                by_cases c18 : t188 = 3
                · rw [if_pos c18] at H
                  have c18b0 : (t188 == 3) = true := beq_iff_eq.mpr c18
                  have c18b1 : (t188 != 3) = false := bne_eq_false_iff_eq.mpr c18
                  clear c18
                  by_cases c19 : (t183.length : Int) = 0
                  · rw [if_pos c19] at H
                    have c19b0 : ((t183.length : Int) == 0) = true := beq_iff_eq.mpr c19
                    have c19b1 : ((t183.length : Int) != 0) = false := bne_eq_false_iff_eq.mpr c19
                    clear c19
                    by_cases c20 : (t187.length : Int) = 0
                    · rw [if_pos c20] at H
                      have c20b0 : ((t187.length : Int) == 0) = true := beq_iff_eq.mpr c20
                      have c20b1 : ((t187.length : Int) != 0) = false := bne_eq_false_iff_eq.mpr c20
                      clear c20
                      replace H := Option.bind_eq_some_iff.mp H
                      obtain ⟨t191, A210, H⟩ := H
                      replace H : (if t191 = true then (none) else ((payrolllaw44_awake.f k1).bind fun t192 => (some t192))) = some r := H
                      have A21 := Aside0.mk A210
                      clear A210
                      by_cases c22 : t191 = true
                      · subst c22
                        have H1 : (none) = some r := by rw [if_pos rfl] at H; exact H
                        clear H
                        have H := H1
                        clear H1
                        exact absurd H (by simp)
                      · replace c22 := Bool.eq_false_iff.mpr c22
                        subst c22
                        have H1 : ((payrolllaw44_awake.f k1).bind fun t192 => (some t192)) = some r := by rw [if_neg (show ¬ (false = true) by decide)] at H; exact H
                        clear H
                        have H := H1
                        clear H1
                        replace H := Option.bind_eq_some_iff.mp H
                        obtain ⟨t192, A230, H⟩ := H
                        replace H : (some t192) = some r := H
                        have A23 := Aside0.mk A230
                        clear A230
                        obtain rfl := Option.some.inj H
                        obtain ⟨Ao24, co24, eo24⟩ := Kd.R_slice HO_4.out
                        subst eo24
                        go_wp2_with (first | ((with_reducible refine gate_callee (f := 18) rfl ?_); refine goesL_ (some 33) rfl rfl Try.func18 (by kernel_rfl) rfl #[.slice Ao24 x4_1.length co24] rfl (by (try simp only [List.map_toArray, List.map_cons, List.map_nil]); first | done | rfl | (simp only [List.length_drop, List.length_take]; rfl)) ?_; (with_reducible refine (ledger_Merge.calls _ _ x4_1 t183 t184 _ ?side1 ?side2 A14.out).mono ?_); (case side1 => repeat (first | exact (Kd.R_reads' HO_4.out).2.2 | (with_reducible refine Kd.C_alloc ?_ _) | (with_reducible refine Kd.C_drewN ?_ _) | (with_reducible refine Kd.C_drew ?_))); (case side2 => exact (Kd.R_reads' HO_4.out).2.1); rintro e w25 ⟨v185, rfl, ho0, hb⟩; refine ⟨_, rfl, ?_⟩; have n0_ := Aside0.mk (Kd.R_elder' (by (with_reducible repeat (first | apply Kd.R_alloc | apply Kd.R_drewN | apply Kd.R_drew)); exact HO_4.out) (Kd.R_base ho0) hb); have n1_ := Aside0.mk (Kd.R_lower (Kd.R_new' ho0 (Kd.R_lt (by (with_reducible repeat (first | apply Kd.R_alloc | apply Kd.R_drewN | apply Kd.R_drew)); exact HO_4.out))) (below_size (by repeat (first | (with_reducible first | exact HB.out | apply below_alloc | apply pw_below_drewN | apply below_drew1) | exact HB.out)))); have n2_ := Aside0.mk (below_step (by repeat (first | (with_reducible first | exact HB.out | apply below_alloc | apply pw_below_drewN | apply below_drew1) | exact HB.out)) hb); clear HO_4; clear HB; have HO_4 := n0_; have HO186 := n1_; have HB := n2_; clear n0_ n1_ n2_; (try clear hb); (try clear hb2); (try clear hk); (try clear hi); (try clear ho0)) | ((with_reducible refine gate_callee (f := 19) rfl ?_); refine goesL_ (some 38) rfl rfl Try.func19 (by kernel_rfl) rfl #[.slice Ao24 x4_1.length co24] rfl (by (try simp only [List.map_toArray, List.map_cons, List.map_nil]); first | done | rfl | (simp only [List.length_drop, List.length_take]; rfl)) ?_; (with_reducible refine (ledger_Trial.calls k1 _ _ x4_1 t187 t188 _ ?side1 ?side2 A15.out).mono ?_); (case side1 => repeat (first | exact (Kd.R_reads' HO_4.out).2.2 | (with_reducible refine Kd.C_alloc ?_ _) | (with_reducible refine Kd.C_drewN ?_ _) | (with_reducible refine Kd.C_drew ?_))); (case side2 => exact (Kd.R_reads' HO_4.out).2.1); rintro e w26 ⟨v189, rfl, ho0, hb⟩; refine ⟨_, rfl, ?_⟩; have n0_ := Aside0.mk (Kd.R_elder' (by (with_reducible repeat (first | apply Kd.R_alloc | apply Kd.R_drewN | apply Kd.R_drew)); exact HO_4.out) (Kd.R_base ho0) hb); have n1_ := Aside0.mk (Kd.R_elder' (by (with_reducible repeat (first | apply Kd.R_alloc | apply Kd.R_drewN | apply Kd.R_drew)); exact HO186.out) (Kd.R_base ho0) hb); have n2_ := Aside0.mk (Kd.R_lower (Kd.R_new' (Kd.R_new' ho0 (Kd.R_lt (by (with_reducible repeat (first | apply Kd.R_alloc | apply Kd.R_drewN | apply Kd.R_drew)); exact HO_4.out))) (Kd.R_lt (by (with_reducible repeat (first | apply Kd.R_alloc | apply Kd.R_drewN | apply Kd.R_drew)); exact HO186.out))) (below_size (by repeat (first | (with_reducible first | exact HB.out | apply below_alloc | apply pw_below_drewN | apply below_drew1) | exact HB.out)))); have n3_ := Aside0.mk (below_step (by repeat (first | (with_reducible first | exact HB.out | apply below_alloc | apply pw_below_drewN | apply below_drew1) | exact HB.out)) hb); clear HO_4; clear HO186; clear HB; have HO_4 := n0_; have HO186 := n1_; have HO190 := n2_; have HB := n3_; clear n0_ n1_ n2_ n3_; (try clear hb); (try clear hb2); (try clear hk); (try clear hi); (try clear ho0); obtain ⟨Ao27, co27, eo27⟩ := Kd.R_slice HO186.out; subst eo27; obtain ⟨Ao28, co28, eo28⟩ := Kd.R_slice HO190.out; subst eo28) | (go_at_call 20; (with_reducible refine (ledger_Balanced.calls _ _ x4_1 false _ ?side1 ?side2 A21.out).mono ?_); (case side1 => repeat (first | exact (Kd.R_reads' HO_4.out).2.2 | (with_reducible refine Kd.C_alloc ?_ _) | (with_reducible refine Kd.C_drewN ?_ _) | (with_reducible refine Kd.C_drew ?_))); (case side2 => exact (Kd.R_reads' HO_4.out).2.1); rintro e w29 ⟨rfl, hb⟩; have n0_ := Aside0.mk (Kd.R_below (by (with_reducible repeat (first | apply Kd.R_alloc | apply Kd.R_drewN | apply Kd.R_drew)); exact HO_4.out) hb); have n1_ := Aside0.mk (Kd.R_below (by (with_reducible repeat (first | apply Kd.R_alloc | apply Kd.R_drewN | apply Kd.R_drew)); exact HO186.out) hb); have n2_ := Aside0.mk (Kd.R_below (by (with_reducible repeat (first | apply Kd.R_alloc | apply Kd.R_drewN | apply Kd.R_drew)); exact HO190.out) hb); have n3_ := Aside0.mk (below_step (by repeat (first | (with_reducible first | exact HB.out | apply below_alloc | apply pw_below_drewN | apply below_drew1) | exact HB.out)) hb); clear HO_4; clear HO186; clear HO190; clear HB; have HO_4 := n0_; have HO186 := n1_; have HO190 := n2_; have HB := n3_; clear n0_ n1_ n2_ n3_; (try clear hb); (try clear hb2); (try clear hk); (try clear hi)) | (go_at_call 9; (with_reducible refine (payrolllaw44_awake.calls k1  t192 _ A23.out).mono ?_); rintro e w30 ⟨rfl, hb⟩; have n0_ := Aside0.mk (Kd.R_below (by (with_reducible repeat (first | apply Kd.R_alloc | apply Kd.R_drewN | apply Kd.R_drew)); exact HO_4.out) hb); have n1_ := Aside0.mk (Kd.R_below (by (with_reducible repeat (first | apply Kd.R_alloc | apply Kd.R_drewN | apply Kd.R_drew)); exact HO186.out) hb); have n2_ := Aside0.mk (Kd.R_below (by (with_reducible repeat (first | apply Kd.R_alloc | apply Kd.R_drewN | apply Kd.R_drew)); exact HO190.out) hb); have n3_ := Aside0.mk (below_step (by repeat (first | (with_reducible first | exact HB.out | apply below_alloc | apply pw_below_drewN | apply below_drew1) | exact HB.out)) hb); clear HO_4; clear HO186; clear HO190; clear HB; have HO_4 := n0_; have HO186 := n1_; have HO190 := n2_; have HB := n3_; clear n0_ n1_ n2_ n3_; (try clear hb); (try clear hb2); (try clear hk); (try clear hi)))
                        go_ret
                        exact ⟨by first | rfl | (simp [errW_none, errW_some] <;> rfl) | (simp only [← hji3]; first | rfl | (simp [errW_none, errW_some] <;> rfl)) | (simp [*, errW_none, errW_some] <;> rfl), by repeat (first | (with_reducible first | exact HB.out | apply below_alloc | apply pw_below_drewN | apply below_drew1) | exact HB.out)⟩
                    · rw [if_neg c20] at H
                      exact absurd H (by simp)
                  · rw [if_neg c19] at H
                    exact absurd H (by simp)
                · rw [if_neg c18] at H
                  exact absurd H (by simp)
              · rw [if_neg c17] at H
                exact absurd H (by simp)
            · rw [if_neg c16] at H
              have c16b0 : decide (131072 < ji3) = false := decide_eq_false c16
              clear c16
              by_cases c31 : t184 = 0
              · rw [if_pos c31] at H
                have c31b0 : (t184 == 0) = true := beq_iff_eq.mpr c31
                have c31b1 : (t184 != 0) = false := bne_eq_false_iff_eq.mpr c31
                clear c31
                by_cases c32 : t188 = 0
                · rw [if_pos c32] at H
                  have c32b0 : (t188 == 0) = true := beq_iff_eq.mpr c32
                  have c32b1 : (t188 != 0) = false := bne_eq_false_iff_eq.mpr c32
                  clear c32
                  by_cases c33 : (t183.length : Int) = 2
                  · rw [if_pos c33] at H
                    have c33b0 : ((t183.length : Int) == 2) = true := beq_iff_eq.mpr c33
                    have c33b1 : ((t183.length : Int) != 2) = false := bne_eq_false_iff_eq.mpr c33
                    clear c33
                    by_cases c34 : 0 < (t183.length : Int)
                    · rw [if_pos c34] at H
                      have c34b0 : decide (0 < (t183.length : Int)) = true := decide_eq_true c34
                      have c34b1 : decide (0 < t183.length) = true := decide_eq_true (by omega)
                      clear c34
                      by_cases c35 : ((rd_T42 t183 0).f2) = (wrap64 (Int.tdiv (wrap64 (ji3 + 1)) 2))
                      · rw [if_pos c35] at H
                        have c35b0 : (((rd_T42 t183 0).f2) == (wrap64 (Int.tdiv (wrap64 (ji3 + 1)) 2))) = true := beq_iff_eq.mpr c35
                        have c35b1 : (((rd_T42 t183 0).f2) != (wrap64 (Int.tdiv (wrap64 (ji3 + 1)) 2))) = false := bne_eq_false_iff_eq.mpr c35
                        clear c35
                        by_cases c36 : 1 < (t183.length : Int)
                        · rw [if_pos c36] at H
                          have c36b0 : decide (1 < (t183.length : Int)) = true := decide_eq_true c36
                          have c36b1 : decide (1 < t183.length) = true := decide_eq_true (by omega)
                          clear c36
                          by_cases c37 : ((rd_T42 t183 1).f2) = (wrap64 (-(wrap64 (Int.tdiv ji3 2))))
                          · rw [if_pos c37] at H
                            have c37b0 : (((rd_T42 t183 1).f2) == (wrap64 (-(wrap64 (Int.tdiv ji3 2))))) = true := beq_iff_eq.mpr c37
                            have c37b1 : (((rd_T42 t183 1).f2) != (wrap64 (-(wrap64 (Int.tdiv ji3 2))))) = false := bne_eq_false_iff_eq.mpr c37
                            clear c37
                            by_cases c38 : (t187.length : Int) = 2
                            · rw [if_pos c38] at H
                              have c38b0 : ((t187.length : Int) == 2) = true := beq_iff_eq.mpr c38
                              have c38b1 : ((t187.length : Int) != 2) = false := bne_eq_false_iff_eq.mpr c38
                              clear c38
                              replace H := Option.bind_eq_some_iff.mp H
                              obtain ⟨t195, A390, H⟩ := H
                              replace H : (if (t195 == ((Int.tmod ji3 2) == 0)) = true then ((payrolllaw44_awake.f k1).bind fun t196 => (some t196)) else (none)) = some r := H
                              have A39 := Aside0.mk A390
                              clear A390
                              by_cases c40 : (t195 == ((Int.tmod ji3 2) == 0)) = true
                              · rw [if_pos c40] at H
                                have c40b0 : (t195 == ((Int.tmod ji3 2) == 0)) = true := c40
                                (try (have c40b1 : decide (t195 = ((Int.tmod ji3 2) == 0)) = true := by simpa using c40))
                                (try (have c40b2 : (t195 == ((Int.tmod ji3 2) == 0)) = true := by simpa using c40))
                                clear c40
                                replace H := Option.bind_eq_some_iff.mp H
                                obtain ⟨t196, A410, H⟩ := H
                                replace H : (some t196) = some r := H
                                have A41 := Aside0.mk A410
                                clear A410
                                obtain rfl := Option.some.inj H
                                obtain ⟨Ao42, co42, eo42⟩ := Kd.R_slice HO_4.out
                                subst eo42
                                go_wp2_with (first | ((with_reducible refine gate_callee (f := 18) rfl ?_); refine goesL_ (some 33) rfl rfl Try.func18 (by kernel_rfl) rfl #[.slice Ao42 x4_1.length co42] rfl (by (try simp only [List.map_toArray, List.map_cons, List.map_nil]); first | done | rfl | (simp only [List.length_drop, List.length_take]; rfl)) ?_; (with_reducible refine (ledger_Merge.calls _ _ x4_1 t183 t184 _ ?side1 ?side2 A14.out).mono ?_); (case side1 => repeat (first | exact (Kd.R_reads' HO_4.out).2.2 | (with_reducible refine Kd.C_alloc ?_ _) | (with_reducible refine Kd.C_drewN ?_ _) | (with_reducible refine Kd.C_drew ?_))); (case side2 => exact (Kd.R_reads' HO_4.out).2.1); rintro e w43 ⟨v185, rfl, ho0, hb⟩; refine ⟨_, rfl, ?_⟩; have n0_ := Aside0.mk (Kd.R_elder' (by (with_reducible repeat (first | apply Kd.R_alloc | apply Kd.R_drewN | apply Kd.R_drew)); exact HO_4.out) (Kd.R_base ho0) hb); have n1_ := Aside0.mk (Kd.R_lower (Kd.R_new' ho0 (Kd.R_lt (by (with_reducible repeat (first | apply Kd.R_alloc | apply Kd.R_drewN | apply Kd.R_drew)); exact HO_4.out))) (below_size (by repeat (first | (with_reducible first | exact HB.out | apply below_alloc | apply pw_below_drewN | apply below_drew1) | exact HB.out)))); have n2_ := Aside0.mk (below_step (by repeat (first | (with_reducible first | exact HB.out | apply below_alloc | apply pw_below_drewN | apply below_drew1) | exact HB.out)) hb); clear HO_4; clear HB; have HO_4 := n0_; have HO186 := n1_; have HB := n2_; clear n0_ n1_ n2_; (try clear hb); (try clear hb2); (try clear hk); (try clear hi); (try clear ho0)) | ((with_reducible refine gate_callee (f := 19) rfl ?_); refine goesL_ (some 38) rfl rfl Try.func19 (by kernel_rfl) rfl #[.slice Ao42 x4_1.length co42] rfl (by (try simp only [List.map_toArray, List.map_cons, List.map_nil]); first | done | rfl | (simp only [List.length_drop, List.length_take]; rfl)) ?_; (with_reducible refine (ledger_Trial.calls k1 _ _ x4_1 t187 t188 _ ?side1 ?side2 A15.out).mono ?_); (case side1 => repeat (first | exact (Kd.R_reads' HO_4.out).2.2 | (with_reducible refine Kd.C_alloc ?_ _) | (with_reducible refine Kd.C_drewN ?_ _) | (with_reducible refine Kd.C_drew ?_))); (case side2 => exact (Kd.R_reads' HO_4.out).2.1); rintro e w44 ⟨v189, rfl, ho0, hb⟩; refine ⟨_, rfl, ?_⟩; have n0_ := Aside0.mk (Kd.R_elder' (by (with_reducible repeat (first | apply Kd.R_alloc | apply Kd.R_drewN | apply Kd.R_drew)); exact HO_4.out) (Kd.R_base ho0) hb); have n1_ := Aside0.mk (Kd.R_elder' (by (with_reducible repeat (first | apply Kd.R_alloc | apply Kd.R_drewN | apply Kd.R_drew)); exact HO186.out) (Kd.R_base ho0) hb); have n2_ := Aside0.mk (Kd.R_lower (Kd.R_new' (Kd.R_new' ho0 (Kd.R_lt (by (with_reducible repeat (first | apply Kd.R_alloc | apply Kd.R_drewN | apply Kd.R_drew)); exact HO_4.out))) (Kd.R_lt (by (with_reducible repeat (first | apply Kd.R_alloc | apply Kd.R_drewN | apply Kd.R_drew)); exact HO186.out))) (below_size (by repeat (first | (with_reducible first | exact HB.out | apply below_alloc | apply pw_below_drewN | apply below_drew1) | exact HB.out)))); have n3_ := Aside0.mk (below_step (by repeat (first | (with_reducible first | exact HB.out | apply below_alloc | apply pw_below_drewN | apply below_drew1) | exact HB.out)) hb); clear HO_4; clear HO186; clear HB; have HO_4 := n0_; have HO186 := n1_; have HO190 := n2_; have HB := n3_; clear n0_ n1_ n2_ n3_; (try clear hb); (try clear hb2); (try clear hk); (try clear hi); (try clear ho0); obtain ⟨Ao45, co45, eo45⟩ := Kd.R_slice HO186.out; subst eo45; have p193 : 0 ≤ (0 : Int) := (by omega); have q193 : 0 < (t183.length : Int) := of_decide_eq_true (by first | (with_reducible assumption) | assumption); obtain ⟨ad193, e193, hx193_0, hx193_1, hx193_2⟩ := at_T42 (Kd.R_reads' HO186.out).2.2 0 p193 q193; cases e193; have qi193 : (0 < t183.length) = True := eq_true (by omega); (try rw [show ((0 : Int)).toNat = 0 from rfl] at hx193_0); (try rw [show 0 * 3 = 0 from rfl] at hx193_0); (try rw [Addr.add_zero'] at hx193_0); (try rw [show ((0 : Int)).toNat = 0 from rfl] at hx193_1); (try rw [show 0 * 3 = 0 from rfl] at hx193_1); (try rw [Addr.add_zero'] at hx193_1); (try rw [show ((0 : Int)).toNat = 0 from rfl] at hx193_2); (try rw [show 0 * 3 = 0 from rfl] at hx193_2); (try rw [Addr.add_zero'] at hx193_2); replace p193 := eq_true p193; replace q193 := eq_true q193; have p194 : 0 ≤ (1 : Int) := (by omega); have q194 : 1 < (t183.length : Int) := of_decide_eq_true (by first | (with_reducible assumption) | assumption); obtain ⟨ad194, e194, hx194_0, hx194_1, hx194_2⟩ := at_T42 (Kd.R_reads' HO186.out).2.2 1 p194 q194; obtain rfl : ad193 = ad194 := (by injection e194); (try simp only [show (1 : Int).toNat = 1 from rfl, Nat.reduceMul, Nat.reduceEqDiff, Go.Addr.add, ↓reduceIte] at hx194_0); (try simp only [show (1 : Int).toNat = 1 from rfl, Nat.reduceMul, Nat.reduceEqDiff, Go.Addr.add, ↓reduceIte] at hx194_1); (try simp only [show (1 : Int).toNat = 1 from rfl, Nat.reduceMul, Nat.reduceEqDiff, Go.Addr.add, ↓reduceIte] at hx194_2); have qi194 : (1 < t183.length) = True := eq_true (by omega); (try rw [show ((1 : Int)).toNat = 1 from rfl] at hx194_0); (try rw [show 1 * 3 = 3 from rfl] at hx194_0); (try rw [show ((1 : Int)).toNat = 1 from rfl] at hx194_1); (try rw [show 1 * 3 = 3 from rfl] at hx194_1); (try rw [show ((1 : Int)).toNat = 1 from rfl] at hx194_2); (try rw [show 1 * 3 = 3 from rfl] at hx194_2); replace p194 := eq_true p194; replace q194 := eq_true q194; obtain ⟨Ao46, co46, eo46⟩ := Kd.R_slice HO190.out; subst eo46) | (go_at_call 20; (with_reducible refine (ledger_Balanced.calls _ _ x4_1 t195 _ ?side1 ?side2 A39.out).mono ?_); (case side1 => repeat (first | exact (Kd.R_reads' HO_4.out).2.2 | (with_reducible refine Kd.C_alloc ?_ _) | (with_reducible refine Kd.C_drewN ?_ _) | (with_reducible refine Kd.C_drew ?_))); (case side2 => exact (Kd.R_reads' HO_4.out).2.1); rintro e w47 ⟨rfl, hb⟩; have n0_ := Aside0.mk (Kd.R_below (by (with_reducible repeat (first | apply Kd.R_alloc | apply Kd.R_drewN | apply Kd.R_drew)); exact HO_4.out) hb); have n1_ := Aside0.mk (Kd.R_below (by (with_reducible repeat (first | apply Kd.R_alloc | apply Kd.R_drewN | apply Kd.R_drew)); exact HO186.out) hb); have n2_ := Aside0.mk (Kd.R_below (by (with_reducible repeat (first | apply Kd.R_alloc | apply Kd.R_drewN | apply Kd.R_drew)); exact HO190.out) hb); have n3_ := Aside0.mk (below_step (by repeat (first | (with_reducible first | exact HB.out | apply below_alloc | apply pw_below_drewN | apply below_drew1) | exact HB.out)) hb); clear HO_4; clear HO186; clear HO190; clear HB; have HO_4 := n0_; have HO186 := n1_; have HO190 := n2_; have HB := n3_; clear n0_ n1_ n2_ n3_; (try clear hb); (try clear hb2); (try clear hk); (try clear hi)) | (go_at_call 9; (with_reducible refine (payrolllaw44_awake.calls k1  t196 _ A41.out).mono ?_); rintro e w48 ⟨rfl, hb⟩; have n0_ := Aside0.mk (Kd.R_below (by (with_reducible repeat (first | apply Kd.R_alloc | apply Kd.R_drewN | apply Kd.R_drew)); exact HO_4.out) hb); have n1_ := Aside0.mk (Kd.R_below (by (with_reducible repeat (first | apply Kd.R_alloc | apply Kd.R_drewN | apply Kd.R_drew)); exact HO186.out) hb); have n2_ := Aside0.mk (Kd.R_below (by (with_reducible repeat (first | apply Kd.R_alloc | apply Kd.R_drewN | apply Kd.R_drew)); exact HO190.out) hb); have n3_ := Aside0.mk (below_step (by repeat (first | (with_reducible first | exact HB.out | apply below_alloc | apply pw_below_drewN | apply below_drew1) | exact HB.out)) hb); clear HO_4; clear HO186; clear HO190; clear HB; have HO_4 := n0_; have HO186 := n1_; have HO190 := n2_; have HB := n3_; clear n0_ n1_ n2_ n3_; (try clear hb); (try clear hb2); (try clear hk); (try clear hi)))
                                go_ret
                                exact ⟨by first | rfl | (simp [errW_none, errW_some] <;> rfl) | (simp only [← hji3]; first | rfl | (simp [errW_none, errW_some] <;> rfl)) | (simp [*, errW_none, errW_some] <;> rfl), by repeat (first | (with_reducible first | exact HB.out | apply below_alloc | apply pw_below_drewN | apply below_drew1) | exact HB.out)⟩
                              · rw [if_neg c40] at H
                                exact absurd H (by simp)
                            · rw [if_neg c38] at H
                              exact absurd H (by simp)
                          · rw [if_neg c37] at H
                            exact absurd H (by simp)
                        · rw [if_neg c36] at H
                          exact absurd H (by simp)
                      · rw [if_neg c35] at H
                        exact absurd H (by simp)
                    · rw [if_neg c34] at H
                      exact absurd H (by simp)
                  · rw [if_neg c33] at H
                    exact absurd H (by simp)
                · rw [if_neg c32] at H
                  exact absurd H (by simp)
              · rw [if_neg c31] at H
                exact absurd H (by simp)
    · rw [if_neg c5] at H
      exact absurd H (by simp)
  · rw [if_neg c4] at H
    exact absurd H (by simp)

/-- THE ONE PURE STATEMENT of payrolllaw44_LedgerLimits: yours. -/
def payrolllaw44_LedgerLimits.Pure : Prop := ∀ (a0 : Int), (Lit.int .i64 a0).wf = true → ∃ k, payrolllaw44_LedgerLimits.f k a0 = some true
theorem payrolllaw44_LedgerLimits.walk (P : payrolllaw44_LedgerLimits.Pure) (a0 : Int) (w : World) (w0 : (Lit.int .i64 a0).wf = true) :
    Calls Try.prog 4 #[.int .i64 a0] w fun e w' => e = .returned (.bool true) ∧ Below w.heap.size w w' := by
  obtain ⟨k, h⟩ := P a0 w0
  refine (payrolllaw44_LedgerLimits.calls k a0 true w h).mono ?_
  rintro e w' ⟨rfl, hd⟩
  exact ⟨rfl, hd⟩

end Go.Proofs.Ytfakedchahildaa.Q
