-- Printed by wip/xprint.py over the translation, with contracts proved by hand among them. Lean checks it.
import Derived.Test.YtelmnkmpkljboaaQx0
import Derived.Test.YtelmnkmpkljboaaQx3
import Derived.Test.YtelmnkmpkljboaaQx4
import Derived.Test.YtelmnkmpkljboaaQx5
import Derived.Test.YtelmnkmpkljboaaQx7
namespace Go.Proofs.Ytelmnkmpkljboaa.Q
open Go.RowKit Go.Proofs.YtelmnkmpkljboaaW.PrintWords Go.Proofs.YtelmnkmpkljboaaW.PrintLast Go.Proofs.YtelmnkmpkljboaaW.PrintMore
attribute [local go_sem] max2_int min2_int max_two min_two max_three min_three max_four min_four   -- for this text's walks alone
set_option linter.unusedVariables false
set_option linter.unusedSimpArgs false

/-! ### payrolllaw35_BookLimits: function 3 -/
def payrolllaw35_BookLimits.l0 : Nat → Int → List (S27) → Int → Option (Bool)
  | 0, _, _, _ => none
  | k + 1, x5, x6, x7 => if x7 < x5 then ((payrolllaw35_pay.f 1 1).bind fun bt182 => (if 0 ≤ x7 then (if x7 < (x6.length : Int) then (payrolllaw35_BookLimits.l0 k x5 (x6.set (x7 : Int).toNat (⟨bt182.1, bt182.2.1, bt182.2.2.1, (⟨bt182.2.2.2.1, bt182.2.2.2.2.1, bt182.2.2.2.2.2⟩ : S25)⟩ : S27)) (wrap64 (x7 + 1))) else (none)) else (none))) else (if 0 ≤ (wrap64 (Int.tdiv x5 2)) then (if (wrap64 (Int.tdiv x5 2)) ≤ (x6.length : Int) then ((book_Add.f k (x6.take ((wrap64 (Int.tdiv x5 2)) : Int).toNat) (x6.drop ((wrap64 (Int.tdiv x5 2)) : Int).toNat)).bind fun bt197 => ((book_Book.f k x6).bind fun t201 => (if (t201 != (decide (x5 ≤ 65536))) = true then (none) else (if x5 > 65536 then (if bt197.2 = 18 then (if (bt197.1.length : Int) = 0 then ((book_Net.f k x6 1).bind fun t202 => (if t202 = 0 then ((payrolllaw35_awake.f k).bind fun t203 => (some t203)) else (none))) else (none)) else (none)) else (if bt197.2 = 0 then (if (bt197.1.length : Int) = x5 then ((book_Net.f k bt197.1 1).bind fun t204 => (if t204 = x5 then ((payrolllaw35_awake.f k).bind fun t205 => (some t205)) else (none))) else (none)) else (none)))))) else (none)) else (none))
def payrolllaw35_BookLimits.f (k : Nat) (a0 : Int) (a1 : Int) : Option (Bool) := (paygen_Mod.f a0 3).bind fun t178 => (if 0 ≤ (wrap64 (65535 + t178)) then (if (wrap64 (65535 + t178) : Int).toNat ≤ 5026338869833 then (payrolllaw35_BookLimits.l0 k (wrap64 (65535 + t178)) (List.replicate (wrap64 (65535 + t178) : Int).toNat z27) 0) else (none)) else (none))
theorem payrolllaw35_BookLimits.mono_l : ∀ k, (∀ y0 y1 y2, LeO (payrolllaw35_BookLimits.l0 k y0 y1 y2) (payrolllaw35_BookLimits.l0 (k + 1) y0 y1 y2))
  | 0 => fun _ _ _ r h => by simp [payrolllaw35_BookLimits.l0] at h
  | k + 1 => by
    have ih0 := payrolllaw35_BookLimits.mono_l k
    · intro y0 y1 y2
      unfold payrolllaw35_BookLimits.l0
      repeat' first
      | (with_reducible exact ih0 _ _ _)
      | (with_reducible exact book_Add.mono _ _ _)
      | (with_reducible exact book_Book.mono _ _)
      | (with_reducible exact book_Net.mono _ _ _)
      | (with_reducible exact payrolllaw35_awake.mono _)
      | (with_reducible exact LeO.refl _)
      | (with_reducible exact LeO.none _)
      | (with_reducible refine LeO.ite ?_ ?_)
      | (with_reducible refine LeO.bind ?_ (fun _ => ?_))
      | exact ih0 _ _ _
      | exact book_Add.mono _ _ _
      | exact book_Book.mono _ _
      | exact book_Net.mono _ _ _
      | exact payrolllaw35_awake.mono _
      | exact LeO.none _
      | refine LeO.ite ?_ ?_
      | refine LeO.bind ?_ (fun _ => ?_)
theorem payrolllaw35_BookLimits.mono : ∀ a0 a1 k, LeO (payrolllaw35_BookLimits.f k a0 a1) (payrolllaw35_BookLimits.f (k + 1) a0 a1) := by
  intro a0 a1 k
  have ih0 := payrolllaw35_BookLimits.mono_l k
  unfold payrolllaw35_BookLimits.f
  repeat' first
      | (with_reducible exact ih0 _ _ _)
      | (with_reducible exact book_Add.mono _ _ _)
      | (with_reducible exact book_Book.mono _ _)
      | (with_reducible exact book_Net.mono _ _ _)
      | (with_reducible exact payrolllaw35_awake.mono _)
      | (with_reducible exact LeO.refl _)
      | (with_reducible exact LeO.none _)
      | (with_reducible refine LeO.ite ?_ ?_)
      | (with_reducible refine LeO.bind ?_ (fun _ => ?_))
      | exact ih0 _ _ _
      | exact book_Add.mono _ _ _
      | exact book_Book.mono _ _
      | exact book_Net.mono _ _ _
      | exact payrolllaw35_awake.mono _
      | exact LeO.none _
      | refine LeO.ite ?_ ?_
      | refine LeO.bind ?_ (fun _ => ?_)
def payrolllaw35_BookLimits.T8 : Bool × List (List Nat × List Nat) := (true, [([], []), ([], []), ([0, 1], [0, 1]), ([], []), ([], []), ([3, 4], [3, 4]), ([2, 5], [2, 5]), ([6], [6]), ([7], [7]), ([7], [7]), ([8, 6, 0, 1, 2, 3, 4, 5, 6, 7, 8], [8]), ([9, 10, 0, 1, 2, 3, 4, 5, 6, 7, 8, 9, 10], [9])])
def payrolllaw35_BookLimits.B8 : List Nat := [0, 0, 3, 0, 0, 24, 63, 127, 255, 255, 511, 2047]
theorem payrolllaw35_BookLimits.tab8 : rtab .any (opsOf Try.f3 8) = payrolllaw35_BookLimits.T8 := by kernel_rfl
theorem payrolllaw35_BookLimits.bits8 : waitsOk payrolllaw35_BookLimits.T8.2 payrolllaw35_BookLimits.B8 = true := by kernel_rfl
set_option maxHeartbeats 8000000 in
set_option maxRecDepth 100000 in
theorem payrolllaw35_BookLimits.calls (k : Nat) (a0 : Int) (a1 : Int) (r : Bool) (w : World) (h : payrolllaw35_BookLimits.f k a0 a1 = some r) :
    Calls Try.prog 3 #[.int .i64 a0, .int .i64 a1] w fun e w' => e = .returned (.bool r) ∧ Below w.heap.size w w' := by
  have hu27 := Try.underlying27
  have HB := Aside0.mk (Below.refl w.heap.size w)
  have H : ((paygen_Mod.f a0 3).bind fun t178 => (if 0 ≤ (wrap64 (65535 + t178)) then (if (wrap64 (65535 + t178) : Int).toNat ≤ 5026338869833 then (payrolllaw35_BookLimits.l0 k (wrap64 (65535 + t178)) (List.replicate (wrap64 (65535 + t178) : Int).toNat z27) 0) else (none)) else (none))) = some r := h
  clear h
  replace H := Option.bind_eq_some_iff.mp H
  obtain ⟨t178, A30, H⟩ := H
  replace H : (if 0 ≤ (wrap64 (65535 + t178)) then (if (wrap64 (65535 + t178) : Int).toNat ≤ 5026338869833 then (payrolllaw35_BookLimits.l0 k (wrap64 (65535 + t178)) (List.replicate (wrap64 (65535 + t178) : Int).toNat z27) 0) else (none)) else (none)) = some r := H
  have A3 := Aside0.mk A30
  clear A30
  obtain ⟨ji4, hji4⟩ : ∃ j_ : Int, (wrap64 (65535 + t178)) = j_ := ⟨_, rfl⟩
  replace H : (if 0 ≤ (ji4) then (if (ji4 : Int).toNat ≤ 5026338869833 then (payrolllaw35_BookLimits.l0 k ji4 (List.replicate (ji4 : Int).toNat z27) 0) else (none)) else (none)) = some r := by first | (rw [hji4] at H; exact H) | (simp only [hji4] at H ⊢; exact H)
  (try rw [hji4] at A3)
  have hji4w : (IntKind.i64.wrap (65535 + t178)) = ji4 := (i64_w _).trans hji4
  by_cases c5 : 0 ≤ (ji4)
  · rw [if_pos c5] at H
    have c5b0 := eq_true c5
    have c5b1 : decide (0 ≤ (ji4)) = true := decide_eq_true c5
    clear c5
    by_cases c6 : (ji4 : Int).toNat ≤ 5026338869833
    · rw [if_pos c6] at H
      have c6b0 := eq_true c6
      have c6b1 : decide ((ji4 : Int).toNat ≤ 5026338869833) = true := decide_eq_true c6
      clear c6
      obtain ⟨y179, hy179⟩ : ∃ y_ : List (S27), y_ = (List.replicate (ji4 : Int).toNat z27) := ⟨_, rfl⟩
      replace H : (payrolllaw35_BookLimits.l0 k ji4 y179 0) = some r := by first | (rw [hy179]; with_reducible exact H) | (have H2_ := (Option.bind_some _ _).symm.trans H; rw [hy179]; with_reducible exact H2_) | (have H2_ := (Option.bind_some _ _).symm.trans H; with_reducible exact H2_) | with_reducible exact H | (rw [hy179]; exact H) | exact H
      have Ny179 := Aside0.mk hy179
      clear hy179
      have H' := Aside0.mk H
      clear H
      go_enter Try.func3, Try.ntmps3
      go_wp2_with (first | ((with_reducible refine gate_callee (f := 11) rfl ?_); refine goesL_ (some 12) rfl rfl Try.func11 (by kernel_rfl) rfl #[.int .i64 a0, .int .i64 3] rfl (by (try simp only [List.map_toArray, List.map_cons, List.map_nil]); first | done | rfl | (simp only [List.length_drop, List.length_take]; rfl)) ?_; (with_reducible refine (paygen_Mod.calls a0 3 t178 _ A3.out).mono ?_); rintro e w' ⟨rfl, ⟨nd, rfl⟩⟩; refine ⟨_, rfl, ?_⟩) | ((with_reducible refine gate_dst (N := 15) rfl ?_); (try (refine gate_guard (by rfl) ?_; dsimp only)); refine Kd.R_make k27 _ 27 rfl (N := 15) rfl 23 _ _ rfl ji4 rfl rfl Try.underlying23 (.agg #[(.int .i64 0), (.int .i64 0), (.int .i64 0), (.int .i64 0), (.string ⟨#[]⟩), (.int .i64 0)]) 56 info27 rfl (by decide) (by omega) z27 (ok := fun _ => True) (okp := fun _ => True) (k27_mkM _ _ _ z27 ) (fun _ hk => hk) trivial (of_decide_eq_true (by first | (with_reducible assumption) | assumption)) (Nat.le_trans (Nat.mul_le_mul_right _ (of_decide_eq_true (by first | (with_reducible assumption) | assumption) : ji4.toNat ≤ 5026338869833)) (by omega)) (Below.refl _ _) (Nat.le_refl _) ?_; intro v180 w7 ho8 hb hg_ hnew_; clear hg_ hnew_; (first | rw [← Ny179.out] at ho8 | (simp only [Int.reduceToNat] at ho8; rw [← Ny179.out] at ho8)); have n0_ := Aside0.mk (Kd.R_lower ho8 (below_size (by repeat (first | (with_reducible first | exact HB.out | apply below_alloc | apply pw_below_drewN | apply below_drew1) | exact HB.out)))); have n1_ := Aside0.mk (below_step (by repeat (first | (with_reducible first | exact HB.out | apply below_alloc | apply pw_below_drewN | apply below_drew1) | exact HB.out)) hb); clear HB; have HO181 := n0_; have HB := n1_; clear n0_ n1_; clear hb ho8))
      go_loopg [7] k (fun kq v7 w' => ∃ (x6_1 : List (S27)) (x7_1 : Int), v7 = .int .i64 x7_1 ∧ Aside0 (payrolllaw35_BookLimits.l0 kq ji4 x6_1 x7_1 = some r) ∧ Aside0 (kq ≤ k) ∧ Aside0 (Kd.R k27 27 w' w.heap.size (fun _ => True) v180 x6_1) ∧ Aside0 (Below w.heap.size w w'))
      case atStart => exact ⟨(y179), (0), (by first | rfl | (simp; done) | (simp [*]; done)), H', ⟨Nat.le_refl _⟩, ⟨by (with_reducible repeat (first | apply Kd.R_alloc | apply Kd.R_drewN | apply Kd.R_drew)); exact HO181.out⟩, ⟨by repeat (first | (with_reducible first | exact HB.out | apply below_alloc | apply pw_below_drewN | apply below_drew1) | exact HB.out)⟩⟩
      case round =>
        clear H'
        try clear c1
        try clear p2
        try clear c3
        try clear c5
        try clear c5b0
        try clear c5b1
        try clear c6
        try clear c6b0
        try clear c6b1
        try clear p6
        obtain ⟨x6_1, x7_1, rfl, HA, HK1, HO_6, HB⟩ := hrel
        cases gk with
        | zero => exact absurd HA.out (by simp [payrolllaw35_BookLimits.l0])
        | succ k1 =>
          have H := HA.out
          clear HA
          simp only [payrolllaw35_BookLimits.l0] at H
          by_cases c9 : x7_1 < ji4
          · rw [if_pos c9] at H
            have c9b0 : decide (x7_1 < ji4) = true := decide_eq_true c9
            clear c9
            replace H := Option.bind_eq_some_iff.mp H
            obtain ⟨⟨t182, t183, t184, t185, t186, t187⟩, A100, H⟩ := H
            replace H : (if 0 ≤ x7_1 then (if x7_1 < (x6_1.length : Int) then (payrolllaw35_BookLimits.l0 k1 ji4 (x6_1.set (x7_1 : Int).toNat (⟨t182, t183, t184, (⟨t185, t186, t187⟩ : S25)⟩ : S27)) (wrap64 (x7_1 + 1))) else (none)) else (none)) = some r := H
            have A10 := Aside0.mk A100
            clear A100
            by_cases c11 : 0 ≤ x7_1
            · rw [if_pos c11] at H
              have c11b0 : decide (0 ≤ x7_1) = true := decide_eq_true c11
              clear c11
              by_cases c12 : x7_1 < (x6_1.length : Int)
              · rw [if_pos c12] at H
                have c12b0 : decide (x7_1 < (x6_1.length : Int)) = true := decide_eq_true c12
                clear c12
                obtain ⟨y188, hy188⟩ : ∃ y_ : List (S27), y_ = (x6_1.set (x7_1 : Int).toNat (⟨t182, t183, t184, (⟨t185, t186, t187⟩ : S25)⟩ : S27)) := ⟨_, rfl⟩
                replace H : (payrolllaw35_BookLimits.l0 k1 ji4 y188 (wrap64 (x7_1 + 1))) = some r := by first | (rw [hy188]; with_reducible exact H) | (have H2_ := (Option.bind_some _ _).symm.trans H; rw [hy188]; with_reducible exact H2_) | (have H2_ := (Option.bind_some _ _).symm.trans H; with_reducible exact H2_) | with_reducible exact H | (rw [hy188]; exact H) | exact H
                have Ny188 := Aside0.mk hy188
                clear hy188
                have H' := Aside0.mk H
                clear H
                go_wp2_with (first | ((with_reducible refine gate_callee (f := 12) rfl ?_); refine goesL_ (some 23) rfl rfl Try.func12 (by kernel_rfl) rfl #[.int .i64 1, .int .i64 1] rfl (by (try simp only [List.map_toArray, List.map_cons, List.map_nil]); first | done | rfl | (simp only [List.length_drop, List.length_take]; rfl)) ?_; (with_reducible refine (payrolllaw35_pay.calls 1 1 t182 t183 t184 t185 t186 t187 _ A10.out).mono ?_); rintro e w14 ⟨rfl, hb⟩; refine ⟨_, rfl, ?_⟩; have n0_ := Aside0.mk (Kd.R_below (by (with_reducible repeat (first | apply Kd.R_alloc | apply Kd.R_drewN | apply Kd.R_drew)); exact HO_6.out) hb); have n1_ := Aside0.mk (below_step (by repeat (first | (with_reducible first | exact HB.out | apply below_alloc | apply pw_below_drewN | apply below_drew1) | exact HB.out)) hb); clear HO_6; clear HB; have HO_6 := n0_; have HB := n1_; clear n0_ n1_; (try clear hb); (try clear hb2); (try clear hk); (try clear hi); have p13 : 0 ≤ (x7_1 : Int) := of_decide_eq_true (by first | (with_reducible assumption) | assumption); have q13 : (x7_1 : Int) < ((x6_1.length : Int) : Int) := of_decide_eq_true (by first | (with_reducible assumption) | assumption); obtain ⟨go13, co13, eo13, gb13, gl13, cl13, HG13⟩ := Kd.R_form HO_6.out (by omega); (first | cases eo13 | (injection eo13 with ea_ en_ ec_; (first | subst ea_ | (injection ea_ with ea_; subst ea_)); subst ec_; clear en_)); have GB13 := Aside0.mk gb13; have GG13 := Aside0.mk HG13; clear gb13 gl13 HG13; obtain ⟨ce13, hcl13, hM13, hcc13, hfr13⟩ := Kd.R_elem HO_6.out z27 (x7_1 : Int) p13 q13; obtain rfl := k27_openM hM13; have hx13_0 : w14.cell? ⟨go13, (x7_1 : Int).toNat * 6, none⟩ = some (.int .i64 ((rd_T27 x6_1 x7_1).f0)) := hcc13 0 _ rfl; have hx13_1 : w14.cell? ⟨go13, (x7_1 : Int).toNat * 6 + 1, none⟩ = some (.int .i64 ((rd_T27 x6_1 x7_1).f1)) := hcc13 1 _ rfl; have hx13_2 : w14.cell? ⟨go13, (x7_1 : Int).toNat * 6 + 2, none⟩ = some (.int .i64 ((rd_T27 x6_1 x7_1).f2)) := hcc13 2 _ rfl; have hx13_3 : w14.cell? ⟨go13, (x7_1 : Int).toNat * 6 + 3, none⟩ = some (.int .i64 ((rd_T27 x6_1 x7_1).f3.f0)) := hcc13 3 _ rfl; have hx13_4 : w14.cell? ⟨go13, (x7_1 : Int).toNat * 6 + 4, none⟩ = some (.string ((rd_T27 x6_1 x7_1).f3.f1)) := hcc13 4 _ rfl; have hx13_5 : w14.cell? ⟨go13, (x7_1 : Int).toNat * 6 + 5, none⟩ = some (.int .i64 ((rd_T27 x6_1 x7_1).f3.f2)) := hcc13 5 _ rfl; have hf13_0 : w14.frozen? ⟨go13, (x7_1 : Int).toNat * 6, none⟩ = false := hfr13 0; have hf13_1 : w14.frozen? ⟨go13, (x7_1 : Int).toNat * 6 + 1, none⟩ = false := hfr13 1; have hf13_2 : w14.frozen? ⟨go13, (x7_1 : Int).toNat * 6 + 2, none⟩ = false := hfr13 2; have hf13_3 : w14.frozen? ⟨go13, (x7_1 : Int).toNat * 6 + 3, none⟩ = false := hfr13 3; have hf13_4 : w14.frozen? ⟨go13, (x7_1 : Int).toNat * 6 + 4, none⟩ = false := hfr13 4; have hf13_5 : w14.frozen? ⟨go13, (x7_1 : Int).toNat * 6 + 5, none⟩ = false := hfr13 5; clear hcl13 hcc13 hfr13 hM13; replace p13 := eq_true p13; replace q13 := eq_true q13; have HX15 := Aside0.mk (show Kd.R k27 27 w14 w.heap.size (fun _ => True) (.slice (some ⟨go13, 0, none⟩) x6_1.length co13) x6_1 from (by (with_reducible repeat (first | apply Kd.R_alloc | apply Kd.R_drewN | apply Kd.R_drew)); exact HO_6.out)); obtain ⟨ce15, hcl15, hM15, hcc15, hfr15⟩ := Kd.R_elem HX15.out z27 (x7_1 : Int) (of_decide_eq_true (by first | (with_reducible assumption) | assumption)) (by have h_ : (x7_1 : Int) < ((x6_1.length : Int) : Int) := of_decide_eq_true (by first | (with_reducible assumption) | assumption); first | exact h_ | (have e_ := (Kd.R_reads' HO_6.out).1; omega) | simpa using h_); obtain rfl := k27_openM hM15; have HP15 := Kd.R_seg HX15.out (x7_1 : Int) (of_decide_eq_true (by first | (with_reducible assumption) | assumption)) (by have h_ : (x7_1 : Int) < ((x6_1.length : Int) : Int) := of_decide_eq_true (by first | (with_reducible assumption) | assumption); first | exact h_ | (have e_ := (Kd.R_reads' HO_6.out).1; omega) | simpa using h_) (seg := [.int .i64 t182, .int .i64 t183, .int .i64 t184, .int .i64 t185, .string t186, .int .i64 t187]) (j := 0) hcl15 hcc15 (show 6 ≤ 6 from by decide) (x' := (⟨t182, t183, t184, (⟨t185, t186, t187⟩ : S25)⟩ : S27)) (k27_mkM _ _ _ (⟨t182, t183, t184, (⟨t185, t186, t187⟩ : S25)⟩ : S27) ) (fun _ hk => hk); have hx15_0 := hcc15 0 _ rfl; (try simp only [show (k27).sz = 6 from rfl, Nat.mul_one, Nat.add_zero] at hx15_0); have hf15_0 := hfr15 0; (try simp only [show (k27).sz = 6 from rfl, Nat.mul_one, Nat.add_zero] at hf15_0); have hx15_1 := hcc15 1 _ rfl; (try simp only [show (k27).sz = 6 from rfl, Nat.mul_one, Nat.add_zero] at hx15_1); have hf15_1 := hfr15 1; (try simp only [show (k27).sz = 6 from rfl, Nat.mul_one, Nat.add_zero] at hf15_1); have hx15_2 := hcc15 2 _ rfl; (try simp only [show (k27).sz = 6 from rfl, Nat.mul_one, Nat.add_zero] at hx15_2); have hf15_2 := hfr15 2; (try simp only [show (k27).sz = 6 from rfl, Nat.mul_one, Nat.add_zero] at hf15_2); have hx15_3 := hcc15 3 _ rfl; (try simp only [show (k27).sz = 6 from rfl, Nat.mul_one, Nat.add_zero] at hx15_3); have hf15_3 := hfr15 3; (try simp only [show (k27).sz = 6 from rfl, Nat.mul_one, Nat.add_zero] at hf15_3); have hx15_4 := hcc15 4 _ rfl; (try simp only [show (k27).sz = 6 from rfl, Nat.mul_one, Nat.add_zero] at hx15_4); have hf15_4 := hfr15 4; (try simp only [show (k27).sz = 6 from rfl, Nat.mul_one, Nat.add_zero] at hf15_4); have hx15_5 := hcc15 5 _ rfl; (try simp only [show (k27).sz = 6 from rfl, Nat.mul_one, Nat.add_zero] at hx15_5); have hf15_5 := hfr15 5; (try simp only [show (k27).sz = 6 from rfl, Nat.mul_one, Nat.add_zero] at hf15_5); clear hcl15 hcc15 hfr15 hM15) | ((with_reducible refine gate_store (t := 27) (p := 24) rfl ?_); refine store_event (t := 27) (p := 24) (v := ?vo_w16) (w1 := ((((((w14.setCell ⟨go13, (x7_1 : Int).toNat * 6, none⟩ (.int .i64 t182)).setCell ⟨go13, (x7_1 : Int).toNat * 6 + 1, none⟩ (.int .i64 t183)).setCell ⟨go13, (x7_1 : Int).toNat * 6 + 2, none⟩ (.int .i64 t184)).setCell ⟨go13, (x7_1 : Int).toNat * 6 + 3, none⟩ (.int .i64 t185)).setCell ⟨go13, (x7_1 : Int).toNat * 6 + 4, none⟩ (.string t186)).setCell ⟨go13, (x7_1 : Int).toNat * 6 + 5, none⟩ (.int .i64 t187))) ?hg ?ho ?hn ?hr ?_; (case ho => rfl); (case hg => rfl); (case hn => rfl); (case hr => first | (go_simp; done) | (go_simp; rfl)); intro w16 hw; have hg : w14.grownBy w16 (some go13) := (by rw [hw]; exact HP15.2); have hp_ : Kd.R k27 27 w16 w.heap.size (fun _ => True) (.slice (some ⟨go13, 0, none⟩) x6_1.length co13) y188 := (by rw [hw, Ny188.out]; exact HP15.1); clear HP15; have n0_ := Aside0.mk (hp_); have n1_ := Aside0.mk ((by rw [hw]; exact below_set (below_set (below_set (below_set (below_set (below_set (HB.out) GB13.out) GB13.out) GB13.out) GB13.out) GB13.out) GB13.out : Below w.heap.size w w16)); clear HO_6; clear HB; have HO_6 := n0_; have HB := n1_; clear n0_ n1_; clear hg hw hp_))
                go_roundg k1
                case measure => have := HK1.out; omega
                case rel => exact ⟨(y188), (wrap64 (x7_1 + 1)), (by first | rfl | (simp; done) | (simp [*]; done)), H', ⟨by have := HK1.out; omega⟩, ⟨by (with_reducible repeat (first | apply Kd.R_alloc | apply Kd.R_drewN | apply Kd.R_drew)); exact HO_6.out⟩, ⟨by repeat (first | (with_reducible first | exact HB.out | apply below_alloc | apply pw_below_drewN | apply below_drew1) | exact HB.out)⟩⟩
              · rw [if_neg c12] at H
                exact absurd H (by simp)
            · rw [if_neg c11] at H
              exact absurd H (by simp)
          · rw [if_neg c9] at H
            have c9b0 : decide (x7_1 < ji4) = false := decide_eq_false c9
            clear c9
            obtain ⟨ji17, hji17⟩ : ∃ j_ : Int, (wrap64 (Int.tdiv ji4 2)) = j_ := ⟨_, rfl⟩
            replace H : (if 0 ≤ (ji17) then (if (ji17) ≤ (x6_1.length : Int) then ((book_Add.f k1 (x6_1.take ((ji17) : Int).toNat) (x6_1.drop ((ji17) : Int).toNat)).bind fun bt197 => ((book_Book.f k1 x6_1).bind fun t201 => (if (t201 != (decide (ji4 ≤ 65536))) = true then (none) else (if ji4 > 65536 then (if bt197.2 = 18 then (if (bt197.1.length : Int) = 0 then ((book_Net.f k1 x6_1 1).bind fun t202 => (if t202 = 0 then ((payrolllaw35_awake.f k1).bind fun t203 => (some t203)) else (none))) else (none)) else (none)) else (if bt197.2 = 0 then (if (bt197.1.length : Int) = ji4 then ((book_Net.f k1 bt197.1 1).bind fun t204 => (if t204 = ji4 then ((payrolllaw35_awake.f k1).bind fun t205 => (some t205)) else (none))) else (none)) else (none)))))) else (none)) else (none)) = some r := by first | (rw [hji17] at H; exact H) | (simp only [hji17] at H ⊢; exact H)
            have hji17w : (IntKind.i64.wrap (Int.tdiv ji4 2)) = ji17 := (i64_w _).trans hji17
            by_cases c18 : 0 ≤ (ji17)
            · rw [if_pos c18] at H
              have c18b0 := eq_true c18
              have c18b1 : decide (0 ≤ (ji17)) = true := decide_eq_true c18
              clear c18
              by_cases c19 : (ji17) ≤ (x6_1.length : Int)
              · rw [if_pos c19] at H
                have c19b0 := eq_true c19
                have c19b1 : decide ((ji17) ≤ (x6_1.length : Int)) = true := decide_eq_true c19
                clear c19
                obtain ⟨y189, hy189⟩ : ∃ y_ : List (S27), y_ = (x6_1.take ((ji17) : Int).toNat) := ⟨_, rfl⟩
                replace H : ((book_Add.f k1 y189 (x6_1.drop ((ji17) : Int).toNat)).bind fun bt197 => ((book_Book.f k1 x6_1).bind fun t201 => (if (t201 != (decide (ji4 ≤ 65536))) = true then (none) else (if ji4 > 65536 then (if bt197.2 = 18 then (if (bt197.1.length : Int) = 0 then ((book_Net.f k1 x6_1 1).bind fun t202 => (if t202 = 0 then ((payrolllaw35_awake.f k1).bind fun t203 => (some t203)) else (none))) else (none)) else (none)) else (if bt197.2 = 0 then (if (bt197.1.length : Int) = ji4 then ((book_Net.f k1 bt197.1 1).bind fun t204 => (if t204 = ji4 then ((payrolllaw35_awake.f k1).bind fun t205 => (some t205)) else (none))) else (none)) else (none)))))) = some r := by first | (rw [hy189]; with_reducible exact H) | (have H2_ := (Option.bind_some _ _).symm.trans H; rw [hy189]; with_reducible exact H2_) | (have H2_ := (Option.bind_some _ _).symm.trans H; with_reducible exact H2_) | with_reducible exact H | (rw [hy189]; exact H) | exact H
                have Ny189 := Aside0.mk hy189
                clear hy189
                have c20b0 := eq_true (of_decide_eq_true (by first | (with_reducible assumption) | assumption) : 0 ≤ (ji17))
                have c21b0 := eq_true (of_decide_eq_true (by first | (with_reducible assumption) | assumption) : (ji17) ≤ (x6_1.length : Int))
                obtain ⟨y193, hy193⟩ : ∃ y_ : List (S27), y_ = (x6_1.drop ((ji17) : Int).toNat) := ⟨_, rfl⟩
                replace H : ((book_Add.f k1 y189 y193).bind fun bt197 => ((book_Book.f k1 x6_1).bind fun t201 => (if (t201 != (decide (ji4 ≤ 65536))) = true then (none) else (if ji4 > 65536 then (if bt197.2 = 18 then (if (bt197.1.length : Int) = 0 then ((book_Net.f k1 x6_1 1).bind fun t202 => (if t202 = 0 then ((payrolllaw35_awake.f k1).bind fun t203 => (some t203)) else (none))) else (none)) else (none)) else (if bt197.2 = 0 then (if (bt197.1.length : Int) = ji4 then ((book_Net.f k1 bt197.1 1).bind fun t204 => (if t204 = ji4 then ((payrolllaw35_awake.f k1).bind fun t205 => (some t205)) else (none))) else (none)) else (none)))))) = some r := by first | (rw [hy193]; with_reducible exact H) | (have H2_ := (Option.bind_some _ _).symm.trans H; rw [hy193]; with_reducible exact H2_) | (have H2_ := (Option.bind_some _ _).symm.trans H; with_reducible exact H2_) | with_reducible exact H | (rw [hy193]; exact H) | exact H
                have Ny193 := Aside0.mk hy193
                clear hy193
                replace H := Option.bind_eq_some_iff.mp H
                obtain ⟨⟨t197, t198⟩, A220, H⟩ := H
                replace H : ((book_Book.f k1 x6_1).bind fun t201 => (if (t201 != (decide (ji4 ≤ 65536))) = true then (none) else (if ji4 > 65536 then (if t198 = 18 then (if (t197.length : Int) = 0 then ((book_Net.f k1 x6_1 1).bind fun t202 => (if t202 = 0 then ((payrolllaw35_awake.f k1).bind fun t203 => (some t203)) else (none))) else (none)) else (none)) else (if t198 = 0 then (if (t197.length : Int) = ji4 then ((book_Net.f k1 t197 1).bind fun t204 => (if t204 = ji4 then ((payrolllaw35_awake.f k1).bind fun t205 => (some t205)) else (none))) else (none)) else (none))))) = some r := H
                have A22 := Aside0.mk A220
                clear A220
                replace H := Option.bind_eq_some_iff.mp H
                obtain ⟨t201, A230, H⟩ := H
                replace H : (if (t201 != (decide (ji4 ≤ 65536))) = true then (none) else (if ji4 > 65536 then (if t198 = 18 then (if (t197.length : Int) = 0 then ((book_Net.f k1 x6_1 1).bind fun t202 => (if t202 = 0 then ((payrolllaw35_awake.f k1).bind fun t203 => (some t203)) else (none))) else (none)) else (none)) else (if t198 = 0 then (if (t197.length : Int) = ji4 then ((book_Net.f k1 t197 1).bind fun t204 => (if t204 = ji4 then ((payrolllaw35_awake.f k1).bind fun t205 => (some t205)) else (none))) else (none)) else (none)))) = some r := H
                have A23 := Aside0.mk A230
                clear A230
                by_cases c24 : (t201 != (decide (ji4 ≤ 65536))) = true
                · rw [if_pos c24] at H
                  exact absurd H (by simp)
                · rw [if_neg c24] at H
                  have c24b0 : (t201 != (decide (ji4 ≤ 65536))) = false := by simpa using c24
                  (try (have c24b1 : decide (t201 = (decide (ji4 ≤ 65536))) = true := by simpa using c24))
                  (try (have c24b2 : (t201 == (decide (ji4 ≤ 65536))) = true := by simpa using c24))
                  clear c24
                  by_cases c25 : ji4 > 65536
                  · rw [if_pos c25] at H
                    have c25b0 : decide (65536 < ji4) = true := decide_eq_true c25
                    clear c25
                    by_cases c26 : t198 = 18
                    · rw [if_pos c26] at H
                      have c26b0 : (t198 == 18) = true := beq_iff_eq.mpr c26
                      have c26b1 : (t198 != 18) = false := bne_eq_false_iff_eq.mpr c26
                      clear c26
                      by_cases c27 : (t197.length : Int) = 0
                      · rw [if_pos c27] at H
                        have c27b0 : ((t197.length : Int) == 0) = true := beq_iff_eq.mpr c27
                        have c27b1 : ((t197.length : Int) != 0) = false := bne_eq_false_iff_eq.mpr c27
                        clear c27
                        replace H := Option.bind_eq_some_iff.mp H
                        obtain ⟨t202, A280, H⟩ := H
                        replace H : (if t202 = 0 then ((payrolllaw35_awake.f k1).bind fun t203 => (some t203)) else (none)) = some r := H
                        have A28 := Aside0.mk A280
                        clear A280
                        by_cases c29 : t202 = 0
                        · rw [if_pos c29] at H
                          have c29b0 : (t202 == 0) = true := beq_iff_eq.mpr c29
                          have c29b1 : (t202 != 0) = false := bne_eq_false_iff_eq.mpr c29
                          clear c29
                          replace H := Option.bind_eq_some_iff.mp H
                          obtain ⟨t203, A300, H⟩ := H
                          replace H : (some t203) = some r := H
                          have A30 := Aside0.mk A300
                          clear A300
                          obtain rfl := Option.some.inj H
                          try go_wp2
                          have n0_ := Aside0.mk (Kd.R_drew HO_6.out)
                          have n1_ := Aside0.mk (below_drew1 HB.out)
                          clear HO_6
                          clear HB
                          have HO_6 := n0_
                          have HB := n1_
                          clear n0_ n1_
                          obtain ⟨Ao33, co33, eo33⟩ := Kd.R_slice HO_6.out
                          (first | subst eo33 | (injection eo33 with f1_ f2_ f3_; have f4_ := f1_.symm; have f5_ := f3_.symm; clear f1_ f2_ f3_; subst f4_; subst f5_))
                          have q32 : ((ji17) : Int) ≤ ((x6_1.length : Int) : Int) := of_decide_eq_true (by first | (with_reducible assumption) | assumption)
                          obtain ⟨i032, hi032, _, hsz32, _⟩ := info_parts info27
                          have hroom32 : x6_1.length ≤ co33 := (Kd.R_reads' HO_6.out).2.1
                          have hC32 : Kd.C k27 _ Ao33 x6_1.length x6_1 := (Kd.R_reads' HO_6.out).2.2
                          have hcut32 := cut_to (P := Try.prog) 23 27 .i64 Try.underlying23 hi032 Ao33 x6_1.length co33 (ji17) (of_decide_eq_true (by first | (with_reducible assumption) | assumption)) q32 hroom32
                          have hr32 := Kd.C_take (m := ((ji17) : Int).toNat) hC32 (by omega)
                          have hy32 : y189.length = ((ji17) : Int).toNat := (by rw [Ny189.out, List.length_take]; omega)
                          rw [← Ny189.out] at hr32
                          rw [← hy32] at hcut32
                          have HR192 := Aside0.mk hr32
                          have HC192 := Aside0.mk (show y189.length ≤ co33 from by omega)
                          clear hr32 hC32 hroom32 hi032 hsz32
                          have KY32 := Aside0.mk hy32
                          clear hy32
                          have KL32 := Aside0.mk (show ((ji17) : Int).toNat ≤ x6_1.length from by omega)
                          replace q32 := eq_true q32
                          have q34 : ((ji17) : Int) ≤ ((x6_1.length : Int) : Int) := of_decide_eq_true (by first | (with_reducible assumption) | assumption)
                          obtain ⟨i034, hi034, _, hsz34, _⟩ := info_parts info27
                          have hroom34 : x6_1.length ≤ co33 := (Kd.R_reads' HO_6.out).2.1
                          have hC34 : Kd.C k27 _ Ao33 x6_1.length x6_1 := (Kd.R_reads' HO_6.out).2.2
                          have q034 : (0 : Int) ≤ ((ji17) : Int) := of_decide_eq_true (by first | (with_reducible assumption) | assumption)
                          have hcut34 := cut_from (P := Try.prog) 23 27 .i64 Try.underlying23 hi034 6 hsz34 Ao33 x6_1.length co33 (ji17) q034 q34
                          have hr34 := Kd.C_drop (m := ((ji17) : Int).toNat) (c := co33) hC34 (by omega) hroom34
                          obtain ⟨A34, hA34⟩ : ∃ A1, A1 = (if co33 = ((ji17) : Int).toNat then Ao33 else (Ao33 : Option Addr).map (·.add (((ji17) : Int).toNat * 6))) := ⟨_, rfl⟩
                          obtain ⟨c34, hc34⟩ : ∃ c1, c1 = co33 - ((ji17) : Int).toNat := ⟨_, rfl⟩
                          have hy34 : y193.length = x6_1.length - ((ji17) : Int).toNat := (by rw [Ny193.out, List.length_drop] <;> omega)
                          rw [show (x6_1).drop ((ji17) : Int).toNat = y193 from Ny193.out.symm] at hr34
                          replace hr34 : Kd.C k27 _ A34 y193.length y193 := (by rw [hA34]; exact hr34)
                          rw [← hy34, ← hA34, ← hc34] at hcut34
                          have HR196 := Aside0.mk hr34
                          have HC196 := Aside0.mk (show y193.length ≤ c34 from by rw [hy34, hc34]; exact Nat.sub_le_sub_right hroom34 _)
                          clear hr34 hC34 hroom34 hi034 hsz34 hc34
                          have KY34 := Aside0.mk hy34
                          have KA34 := Aside0.mk hA34
                          clear hy34 hA34
                          have KL34 := Aside0.mk (show ((ji17) : Int).toNat ≤ x6_1.length from by omega)
                          replace q34 := eq_true q34
                          refine start_ (n := 12) (S := fun w' => True) (ds := []) #[false, false, false, false, false, false, false, false, false, false, false, false] (by kernel_rfl) rfl rfl trivial (fun hHeld => ?_); refine with_tabW payrolllaw35_BookLimits.tab8 payrolllaw35_BookLimits.bits8 (fun HT_ HW_ => ?_)
                          generalize wr.drew = w31 at HO_6 HB HR192 HR196 hHeld ⊢
                          refine pure_ (i := 0) (N := some 28) (v := ?_) (a' := ?_) #[true, false, false, false, false, false, false, false, false, false, false, false] rfl rfl (any_of HT_.out (by kernel_rfl)) (fun _ _ _ h => h) (Or.inl ⟨by rfl, ?_⟩) ?_ ?_
                          rotate_left
                          · intro w'
                            go_simp
                            with_reducible rfl
                          rotate_left
                          · simp only [Act.put, List.setIfInBounds_toArray, List.set_cons_zero, List.set_cons_succ, i64_w, i32_w]
                            rfl
                          refine pure_ (i := 1) (N := some 29) (v := ?_) (a' := ?_) #[true, true, false, false, false, false, false, false, false, false, false, false] rfl rfl (any_of HT_.out (by kernel_rfl)) (fun _ _ _ h => h) (Or.inl ⟨by rfl, ?_⟩) ?_ ?_
                          rotate_left
                          · intro w'
                            go_simp
                            with_reducible rfl
                          rotate_left
                          · simp only [Act.put, List.setIfInBounds_toArray, List.set_cons_zero, List.set_cons_succ, i64_w, i32_w]
                            rfl
                          refine pure_ (i := 2) (N := some 30) (v := ?_) (a' := ?_) #[true, true, true, false, false, false, false, false, false, false, false, false] rfl rfl (any_of HT_.out (by kernel_rfl)) (fun _ _ _ h => h) (Or.inl ⟨by rfl, ?_⟩) ?_ ?_
                          rotate_left
                          · intro w'
                            go_simp
                            with_reducible rfl
                          rotate_left
                          · simp only [Act.put, List.setIfInBounds_toArray, List.set_cons_zero, List.set_cons_succ, i64_w, i32_w]
                            rfl
                          refine pure_ (i := 3) (N := some 31) (v := ?_) (a' := ?_) #[true, true, true, true, false, false, false, false, false, false, false, false] rfl rfl (any_of HT_.out (by kernel_rfl)) (fun _ _ _ h => h) (Or.inl ⟨by rfl, ?_⟩) ?_ ?_
                          rotate_left
                          · intro w'
                            go_simp
                            with_reducible rfl
                          rotate_left
                          · simp only [Act.put, List.setIfInBounds_toArray, List.set_cons_zero, List.set_cons_succ, i64_w, i32_w]
                            rfl
                          refine pure_ (i := 4) (N := some 32) (v := ?_) (a' := ?_) #[true, true, true, true, true, false, false, false, false, false, false, false] rfl rfl (any_of HT_.out (by kernel_rfl)) (fun _ _ _ h => h) (Or.inl ⟨by rfl, ?_⟩) ?_ ?_
                          rotate_left
                          · intro w'
                            go_simp
                            with_reducible rfl
                          rotate_left
                          · simp only [Act.put, List.setIfInBounds_toArray, List.set_cons_zero, List.set_cons_succ, i64_w, i32_w]
                            rfl
                          refine pure_ (i := 5) (N := some 33) (v := ?_) (a' := ?_) #[true, true, true, true, true, true, false, false, false, false, false, false] rfl rfl (any_of HT_.out (by kernel_rfl)) (fun _ _ _ h => h) (Or.inl ⟨by rfl, ?_⟩) ?_ ?_
                          rotate_left
                          · intro w'
                            go_simp
                            with_reducible rfl
                          rotate_left
                          · simp only [Act.put, List.setIfInBounds_toArray, List.set_cons_zero, List.set_cons_succ, i64_w, i32_w]
                            rfl
                          refine one_ (i := 6) (N := some 34) #[true, true, true, true, true, true, true, false, false, false, false, false] rfl rfl (one_of HT_.out (by kernel_rfl)) (by decide) (fun K hK => ?_)
                          refine goes_ Try.func13 (by kernel_rfl) rfl #[.slice Ao33 y189.length co33, .slice A34 y193.length c34] (by rfl) rfl rfl (by (try simp only [List.map_toArray, List.map_cons, List.map_nil]); first | done | rfl | (simp only [List.length_drop, List.length_take]; rfl)) ?_
                          with_reducible refine (book_Add.calls k1 _ _ y189 _ _ y193 t197 t198 _ ?side1 ?side2 ?side3 ?side4 A22.out).mono ?_
                          (case side1 => repeat (first | exact (by repeat (first | (with_reducible exact HR192.out) | (with_reducible refine Kd.C_alloc ?_ _) | (with_reducible refine Kd.C_drewN ?_ _) | (with_reducible refine Kd.C_drew ?_) | exact HR192.out)) | (with_reducible refine Kd.C_alloc ?_ _) | (with_reducible refine Kd.C_drewN ?_ _) | (with_reducible refine Kd.C_drew ?_)))
                          (case side2 => exact HC192.out)
                          (case side3 => repeat (first | exact (by repeat (first | (with_reducible exact HR196.out) | (with_reducible refine Kd.C_alloc ?_ _) | (with_reducible refine Kd.C_drewN ?_ _) | (with_reducible refine Kd.C_drew ?_) | exact HR196.out)) | (with_reducible refine Kd.C_alloc ?_ _) | (with_reducible refine Kd.C_drewN ?_ _) | (with_reducible refine Kd.C_drew ?_)))
                          (case side4 => exact HC196.out)
                          rintro e w35 ⟨v199, rfl, ho0, hb⟩
                          refine ⟨_, rfl, ?_⟩
                          have n0_ := Aside0.mk (Kd.R_elder' (by (with_reducible repeat (first | apply Kd.R_alloc | apply Kd.R_drewN | apply Kd.R_drew)); exact HO_6.out) (Kd.R_base ho0) hb)
                          have n1_ := Aside0.mk (Kd.R_lower (Kd.R_new' ho0 (Kd.R_lt (by (with_reducible repeat (first | apply Kd.R_alloc | apply Kd.R_drewN | apply Kd.R_drew)); exact HO_6.out))) (below_size (by repeat (first | (with_reducible first | exact HB.out | apply below_alloc | apply pw_below_drewN | apply below_drew1) | exact HB.out))))
                          have n2_ := Aside0.mk (Kd.C_below (by repeat (first | (with_reducible exact HR192.out) | (with_reducible refine Kd.C_alloc ?_ _) | (with_reducible refine Kd.C_drewN ?_ _) | (with_reducible refine Kd.C_drew ?_) | exact HR192.out)) hb)
                          have n3_ := Aside0.mk (Kd.C_below (by repeat (first | (with_reducible exact HR196.out) | (with_reducible refine Kd.C_alloc ?_ _) | (with_reducible refine Kd.C_drewN ?_ _) | (with_reducible refine Kd.C_drew ?_) | exact HR196.out)) hb)
                          have n4_ := Aside0.mk (below_step (by repeat (first | (with_reducible first | exact HB.out | apply below_alloc | apply pw_below_drewN | apply below_drew1) | exact HB.out)) hb)
                          clear HO_6
                          clear HR192
                          clear HR196
                          clear HB
                          have HO_6 := n0_
                          have HO200 := n1_
                          have HR192 := n2_
                          have HR196 := n3_
                          have HB := n4_
                          clear n0_ n1_ n2_ n3_ n4_
                          (try clear hb)
                          (try clear hb2)
                          (try clear hk)
                          (try clear hi)
                          (try clear ho0)
                          refine hK.out _ _ trivial (fun hHeld => ?_)
                          clear hK K
                          refine norm_ (a' := ?_) ?_ ?_
                          rotate_left
                          · show Act.put _ (some 34) _ = _
                            simp only [Act.put, List.setIfInBounds_toArray, List.set_cons_zero, List.set_cons_succ, i64_w, i32_w]
                            rfl
                          refine pure_ (i := 7) (N := some 27) (v := ?_) (a' := ?_) #[true, true, true, true, true, true, true, true, false, false, false, false] rfl rfl (any_of HT_.out (by kernel_rfl)) (fun _ _ _ h => h) (Or.inl ⟨by rfl, ?_⟩) ?_ ?_
                          rotate_left
                          · intro w'
                            go_simp
                            with_reducible rfl
                          rotate_left
                          · simp only [Act.put, List.setIfInBounds_toArray, List.set_cons_zero, List.set_cons_succ, i64_w, i32_w]
                            rfl
                          refine pure_ (i := 8) (N := some 35) (v := ?_) (a' := ?_) #[true, true, true, true, true, true, true, true, true, false, false, false] rfl rfl (any_of HT_.out (by kernel_rfl)) (fun _ _ _ h => h) (Or.inl ⟨by rfl, ?_⟩) ?_ ?_
                          rotate_left
                          · intro w'
                            go_simp
                            with_reducible rfl
                          rotate_left
                          · simp only [Act.put, List.setIfInBounds_toArray, List.set_cons_zero, List.set_cons_succ, i64_w, i32_w]
                            rfl
                          refine pure_ (i := 9) (N := some 36) (v := ?_) (a' := ?_) #[true, true, true, true, true, true, true, true, true, true, false, false] rfl rfl (any_of HT_.out (by kernel_rfl)) (fun _ _ _ h => h) (Or.inl ⟨by rfl, ?_⟩) ?_ ?_
                          rotate_left
                          · intro w'
                            go_simp
                            with_reducible rfl
                          rotate_left
                          · simp only [Act.put, List.setIfInBounds_toArray, List.set_cons_zero, List.set_cons_succ, i64_w, i32_w]
                            rfl
                          refine pure_ (i := 10) (N := some 9) (v := ?_) (a' := ?_) #[true, true, true, true, true, true, true, true, true, true, true, false] rfl rfl (any_of HT_.out (by kernel_rfl)) (fun _ _ _ h => h) (Or.inl ⟨by rfl, ?_⟩) ?_ ?_
                          rotate_left
                          · intro w'
                            go_simp
                            with_reducible rfl
                          rotate_left
                          · simp only [Act.put, List.setIfInBounds_toArray, List.set_cons_zero, List.set_cons_succ, i64_w, i32_w]
                            rfl
                          refine pure_ (i := 11) (N := some 10) (v := ?_) (a' := ?_) #[true, true, true, true, true, true, true, true, true, true, true, true] rfl rfl (any_of HT_.out (by kernel_rfl)) (fun _ _ _ h => h) (Or.inl ⟨by rfl, ?_⟩) ?_ ?_
                          rotate_left
                          · intro w'
                            go_simp
                            with_reducible rfl
                          rotate_left
                          · simp only [Act.put, List.setIfInBounds_toArray, List.set_cons_zero, List.set_cons_succ, i64_w, i32_w]
                            rfl
                          refine done_ (done_of HT_.out (by kernel_rfl)) ?_
                          try go_wp2_with (first | ((with_reducible refine gate_callee (f := 14) rfl ?_); refine goesL_ (some 38) rfl rfl Try.func14 (by kernel_rfl) rfl #[.slice Ao33 x6_1.length co33] rfl (by (try simp only [List.map_toArray, List.map_cons, List.map_nil]); first | done | rfl | (simp only [List.length_drop, List.length_take]; rfl)) ?_; (with_reducible refine (book_Book.calls k1 _ _ x6_1 t201 _ ?side1 ?side2 A23.out).mono ?_); (case side1 => repeat (first | exact (Kd.R_reads' HO_6.out).2.2 | (with_reducible refine Kd.C_alloc ?_ _) | (with_reducible refine Kd.C_drewN ?_ _) | (with_reducible refine Kd.C_drew ?_))); (case side2 => exact (Kd.R_reads' HO_6.out).2.1); rintro e w36 ⟨rfl, hb⟩; refine ⟨_, rfl, ?_⟩; have n0_ := Aside0.mk (Kd.R_below (by (with_reducible repeat (first | apply Kd.R_alloc | apply Kd.R_drewN | apply Kd.R_drew)); exact HO_6.out) hb); have n1_ := Aside0.mk (Kd.R_below (by (with_reducible repeat (first | apply Kd.R_alloc | apply Kd.R_drewN | apply Kd.R_drew)); exact HO200.out) hb); have n2_ := Aside0.mk (Kd.C_below (by repeat (first | (with_reducible exact HR192.out) | (with_reducible refine Kd.C_alloc ?_ _) | (with_reducible refine Kd.C_drewN ?_ _) | (with_reducible refine Kd.C_drew ?_) | exact HR192.out)) hb); have n3_ := Aside0.mk (Kd.C_below (by repeat (first | (with_reducible exact HR196.out) | (with_reducible refine Kd.C_alloc ?_ _) | (with_reducible refine Kd.C_drewN ?_ _) | (with_reducible refine Kd.C_drew ?_) | exact HR196.out)) hb); have n4_ := Aside0.mk (below_step (by repeat (first | (with_reducible first | exact HB.out | apply below_alloc | apply pw_below_drewN | apply below_drew1) | exact HB.out)) hb); clear HO_6; clear HO200; clear HR192; clear HR196; clear HB; have HO_6 := n0_; have HO200 := n1_; have HR192 := n2_; have HR196 := n3_; have HB := n4_; clear n0_ n1_ n2_ n3_ n4_; (try clear hb); (try clear hb2); (try clear hk); (try clear hi); obtain ⟨Ao37, co37, eo37⟩ := Kd.R_slice HO200.out; subst eo37) | (go_at_call 15; (with_reducible refine (book_Net.calls k1 _ _ x6_1 1 t202 _ ?side1 ?side2 A28.out).mono ?_); (case side1 => repeat (first | exact (Kd.R_reads' HO_6.out).2.2 | (with_reducible refine Kd.C_alloc ?_ _) | (with_reducible refine Kd.C_drewN ?_ _) | (with_reducible refine Kd.C_drew ?_))); (case side2 => exact (Kd.R_reads' HO_6.out).2.1); rintro e w38 ⟨rfl, hb⟩; have n0_ := Aside0.mk (Kd.R_below (by (with_reducible repeat (first | apply Kd.R_alloc | apply Kd.R_drewN | apply Kd.R_drew)); exact HO_6.out) hb); have n1_ := Aside0.mk (Kd.R_below (by (with_reducible repeat (first | apply Kd.R_alloc | apply Kd.R_drewN | apply Kd.R_drew)); exact HO200.out) hb); have n2_ := Aside0.mk (Kd.C_below (by repeat (first | (with_reducible exact HR192.out) | (with_reducible refine Kd.C_alloc ?_ _) | (with_reducible refine Kd.C_drewN ?_ _) | (with_reducible refine Kd.C_drew ?_) | exact HR192.out)) hb); have n3_ := Aside0.mk (Kd.C_below (by repeat (first | (with_reducible exact HR196.out) | (with_reducible refine Kd.C_alloc ?_ _) | (with_reducible refine Kd.C_drewN ?_ _) | (with_reducible refine Kd.C_drew ?_) | exact HR196.out)) hb); have n4_ := Aside0.mk (below_step (by repeat (first | (with_reducible first | exact HB.out | apply below_alloc | apply pw_below_drewN | apply below_drew1) | exact HB.out)) hb); clear HO_6; clear HO200; clear HR192; clear HR196; clear HB; have HO_6 := n0_; have HO200 := n1_; have HR192 := n2_; have HR196 := n3_; have HB := n4_; clear n0_ n1_ n2_ n3_ n4_; (try clear hb); (try clear hb2); (try clear hk); (try clear hi)) | (go_at_call 16; (with_reducible refine (payrolllaw35_awake.calls k1  t203 _ A30.out).mono ?_); rintro e w39 ⟨rfl, hb⟩; have n0_ := Aside0.mk (Kd.R_below (by (with_reducible repeat (first | apply Kd.R_alloc | apply Kd.R_drewN | apply Kd.R_drew)); exact HO_6.out) hb); have n1_ := Aside0.mk (Kd.R_below (by (with_reducible repeat (first | apply Kd.R_alloc | apply Kd.R_drewN | apply Kd.R_drew)); exact HO200.out) hb); have n2_ := Aside0.mk (Kd.C_below (by repeat (first | (with_reducible exact HR192.out) | (with_reducible refine Kd.C_alloc ?_ _) | (with_reducible refine Kd.C_drewN ?_ _) | (with_reducible refine Kd.C_drew ?_) | exact HR192.out)) hb); have n3_ := Aside0.mk (Kd.C_below (by repeat (first | (with_reducible exact HR196.out) | (with_reducible refine Kd.C_alloc ?_ _) | (with_reducible refine Kd.C_drewN ?_ _) | (with_reducible refine Kd.C_drew ?_) | exact HR196.out)) hb); have n4_ := Aside0.mk (below_step (by repeat (first | (with_reducible first | exact HB.out | apply below_alloc | apply pw_below_drewN | apply below_drew1) | exact HB.out)) hb); clear HO_6; clear HO200; clear HR192; clear HR196; clear HB; have HO_6 := n0_; have HO200 := n1_; have HR192 := n2_; have HR196 := n3_; have HB := n4_; clear n0_ n1_ n2_ n3_ n4_; (try clear hb); (try clear hb2); (try clear hk); (try clear hi)))
                          go_ret
                          exact ⟨by first | rfl | (simp [errW_none, errW_some] <;> rfl) | (simp only [← hji4, ← hji17]; first | rfl | (simp [errW_none, errW_some] <;> rfl)) | (simp [*, errW_none, errW_some] <;> rfl), by repeat (first | (with_reducible first | exact HB.out | apply below_alloc | apply pw_below_drewN | apply below_drew1) | exact HB.out)⟩
                        · rw [if_neg c29] at H
                          exact absurd H (by simp)
                      · rw [if_neg c27] at H
                        exact absurd H (by simp)
                    · rw [if_neg c26] at H
                      exact absurd H (by simp)
                  · rw [if_neg c25] at H
                    have c25b0 : decide (65536 < ji4) = false := decide_eq_false c25
                    clear c25
                    by_cases c40 : t198 = 0
                    · rw [if_pos c40] at H
                      have c40b0 : (t198 == 0) = true := beq_iff_eq.mpr c40
                      have c40b1 : (t198 != 0) = false := bne_eq_false_iff_eq.mpr c40
                      clear c40
                      by_cases c41 : (t197.length : Int) = ji4
                      · rw [if_pos c41] at H
                        have c41b0 : ((t197.length : Int) == ji4) = true := beq_iff_eq.mpr c41
                        have c41b1 : ((t197.length : Int) != ji4) = false := bne_eq_false_iff_eq.mpr c41
                        clear c41
                        replace H := Option.bind_eq_some_iff.mp H
                        obtain ⟨t204, A420, H⟩ := H
                        replace H : (if t204 = ji4 then ((payrolllaw35_awake.f k1).bind fun t205 => (some t205)) else (none)) = some r := H
                        have A42 := Aside0.mk A420
                        clear A420
                        by_cases c43 : t204 = ji4
                        · rw [if_pos c43] at H
                          have c43b0 : (t204 == ji4) = true := beq_iff_eq.mpr c43
                          have c43b1 : (t204 != ji4) = false := bne_eq_false_iff_eq.mpr c43
                          clear c43
                          replace H := Option.bind_eq_some_iff.mp H
                          obtain ⟨t205, A440, H⟩ := H
                          replace H : (some t205) = some r := H
                          have A44 := Aside0.mk A440
                          clear A440
                          obtain rfl := Option.some.inj H
                          try go_wp2
                          have n0_ := Aside0.mk (Kd.R_drew HO_6.out)
                          have n1_ := Aside0.mk (below_drew1 HB.out)
                          clear HO_6
                          clear HB
                          have HO_6 := n0_
                          have HB := n1_
                          clear n0_ n1_
                          obtain ⟨Ao47, co47, eo47⟩ := Kd.R_slice HO_6.out
                          (first | subst eo47 | (injection eo47 with f1_ f2_ f3_; have f4_ := f1_.symm; have f5_ := f3_.symm; clear f1_ f2_ f3_; subst f4_; subst f5_))
                          have q46 : ((ji17) : Int) ≤ ((x6_1.length : Int) : Int) := of_decide_eq_true (by first | (with_reducible assumption) | assumption)
                          obtain ⟨i046, hi046, _, hsz46, _⟩ := info_parts info27
                          have hroom46 : x6_1.length ≤ co47 := (Kd.R_reads' HO_6.out).2.1
                          have hC46 : Kd.C k27 _ Ao47 x6_1.length x6_1 := (Kd.R_reads' HO_6.out).2.2
                          have hcut46 := cut_to (P := Try.prog) 23 27 .i64 Try.underlying23 hi046 Ao47 x6_1.length co47 (ji17) (of_decide_eq_true (by first | (with_reducible assumption) | assumption)) q46 hroom46
                          have hr46 := Kd.C_take (m := ((ji17) : Int).toNat) hC46 (by omega)
                          have hy46 : y189.length = ((ji17) : Int).toNat := (by rw [Ny189.out, List.length_take]; omega)
                          rw [← Ny189.out] at hr46
                          rw [← hy46] at hcut46
                          have HR192 := Aside0.mk hr46
                          have HC192 := Aside0.mk (show y189.length ≤ co47 from by omega)
                          clear hr46 hC46 hroom46 hi046 hsz46
                          have KY46 := Aside0.mk hy46
                          clear hy46
                          have KL46 := Aside0.mk (show ((ji17) : Int).toNat ≤ x6_1.length from by omega)
                          replace q46 := eq_true q46
                          have q48 : ((ji17) : Int) ≤ ((x6_1.length : Int) : Int) := of_decide_eq_true (by first | (with_reducible assumption) | assumption)
                          obtain ⟨i048, hi048, _, hsz48, _⟩ := info_parts info27
                          have hroom48 : x6_1.length ≤ co47 := (Kd.R_reads' HO_6.out).2.1
                          have hC48 : Kd.C k27 _ Ao47 x6_1.length x6_1 := (Kd.R_reads' HO_6.out).2.2
                          have q048 : (0 : Int) ≤ ((ji17) : Int) := of_decide_eq_true (by first | (with_reducible assumption) | assumption)
                          have hcut48 := cut_from (P := Try.prog) 23 27 .i64 Try.underlying23 hi048 6 hsz48 Ao47 x6_1.length co47 (ji17) q048 q48
                          have hr48 := Kd.C_drop (m := ((ji17) : Int).toNat) (c := co47) hC48 (by omega) hroom48
                          obtain ⟨A48, hA48⟩ : ∃ A1, A1 = (if co47 = ((ji17) : Int).toNat then Ao47 else (Ao47 : Option Addr).map (·.add (((ji17) : Int).toNat * 6))) := ⟨_, rfl⟩
                          obtain ⟨c48, hc48⟩ : ∃ c1, c1 = co47 - ((ji17) : Int).toNat := ⟨_, rfl⟩
                          have hy48 : y193.length = x6_1.length - ((ji17) : Int).toNat := (by rw [Ny193.out, List.length_drop] <;> omega)
                          rw [show (x6_1).drop ((ji17) : Int).toNat = y193 from Ny193.out.symm] at hr48
                          replace hr48 : Kd.C k27 _ A48 y193.length y193 := (by rw [hA48]; exact hr48)
                          rw [← hy48, ← hA48, ← hc48] at hcut48
                          have HR196 := Aside0.mk hr48
                          have HC196 := Aside0.mk (show y193.length ≤ c48 from by rw [hy48, hc48]; exact Nat.sub_le_sub_right hroom48 _)
                          clear hr48 hC48 hroom48 hi048 hsz48 hc48
                          have KY48 := Aside0.mk hy48
                          have KA48 := Aside0.mk hA48
                          clear hy48 hA48
                          have KL48 := Aside0.mk (show ((ji17) : Int).toNat ≤ x6_1.length from by omega)
                          replace q48 := eq_true q48
                          refine start_ (n := 12) (S := fun w' => True) (ds := []) #[false, false, false, false, false, false, false, false, false, false, false, false] (by kernel_rfl) rfl rfl trivial (fun hHeld => ?_); refine with_tabW payrolllaw35_BookLimits.tab8 payrolllaw35_BookLimits.bits8 (fun HT_ HW_ => ?_)
                          generalize wr.drew = w45 at HO_6 HB HR192 HR196 hHeld ⊢
                          refine pure_ (i := 0) (N := some 28) (v := ?_) (a' := ?_) #[true, false, false, false, false, false, false, false, false, false, false, false] rfl rfl (any_of HT_.out (by kernel_rfl)) (fun _ _ _ h => h) (Or.inl ⟨by rfl, ?_⟩) ?_ ?_
                          rotate_left
                          · intro w'
                            go_simp
                            with_reducible rfl
                          rotate_left
                          · simp only [Act.put, List.setIfInBounds_toArray, List.set_cons_zero, List.set_cons_succ, i64_w, i32_w]
                            rfl
                          refine pure_ (i := 1) (N := some 29) (v := ?_) (a' := ?_) #[true, true, false, false, false, false, false, false, false, false, false, false] rfl rfl (any_of HT_.out (by kernel_rfl)) (fun _ _ _ h => h) (Or.inl ⟨by rfl, ?_⟩) ?_ ?_
                          rotate_left
                          · intro w'
                            go_simp
                            with_reducible rfl
                          rotate_left
                          · simp only [Act.put, List.setIfInBounds_toArray, List.set_cons_zero, List.set_cons_succ, i64_w, i32_w]
                            rfl
                          refine pure_ (i := 2) (N := some 30) (v := ?_) (a' := ?_) #[true, true, true, false, false, false, false, false, false, false, false, false] rfl rfl (any_of HT_.out (by kernel_rfl)) (fun _ _ _ h => h) (Or.inl ⟨by rfl, ?_⟩) ?_ ?_
                          rotate_left
                          · intro w'
                            go_simp
                            with_reducible rfl
                          rotate_left
                          · simp only [Act.put, List.setIfInBounds_toArray, List.set_cons_zero, List.set_cons_succ, i64_w, i32_w]
                            rfl
                          refine pure_ (i := 3) (N := some 31) (v := ?_) (a' := ?_) #[true, true, true, true, false, false, false, false, false, false, false, false] rfl rfl (any_of HT_.out (by kernel_rfl)) (fun _ _ _ h => h) (Or.inl ⟨by rfl, ?_⟩) ?_ ?_
                          rotate_left
                          · intro w'
                            go_simp
                            with_reducible rfl
                          rotate_left
                          · simp only [Act.put, List.setIfInBounds_toArray, List.set_cons_zero, List.set_cons_succ, i64_w, i32_w]
                            rfl
                          refine pure_ (i := 4) (N := some 32) (v := ?_) (a' := ?_) #[true, true, true, true, true, false, false, false, false, false, false, false] rfl rfl (any_of HT_.out (by kernel_rfl)) (fun _ _ _ h => h) (Or.inl ⟨by rfl, ?_⟩) ?_ ?_
                          rotate_left
                          · intro w'
                            go_simp
                            with_reducible rfl
                          rotate_left
                          · simp only [Act.put, List.setIfInBounds_toArray, List.set_cons_zero, List.set_cons_succ, i64_w, i32_w]
                            rfl
                          refine pure_ (i := 5) (N := some 33) (v := ?_) (a' := ?_) #[true, true, true, true, true, true, false, false, false, false, false, false] rfl rfl (any_of HT_.out (by kernel_rfl)) (fun _ _ _ h => h) (Or.inl ⟨by rfl, ?_⟩) ?_ ?_
                          rotate_left
                          · intro w'
                            go_simp
                            with_reducible rfl
                          rotate_left
                          · simp only [Act.put, List.setIfInBounds_toArray, List.set_cons_zero, List.set_cons_succ, i64_w, i32_w]
                            rfl
                          refine one_ (i := 6) (N := some 34) #[true, true, true, true, true, true, true, false, false, false, false, false] rfl rfl (one_of HT_.out (by kernel_rfl)) (by decide) (fun K hK => ?_)
                          refine goes_ Try.func13 (by kernel_rfl) rfl #[.slice Ao47 y189.length co47, .slice A48 y193.length c48] (by rfl) rfl rfl (by (try simp only [List.map_toArray, List.map_cons, List.map_nil]); first | done | rfl | (simp only [List.length_drop, List.length_take]; rfl)) ?_
                          with_reducible refine (book_Add.calls k1 _ _ y189 _ _ y193 t197 t198 _ ?side1 ?side2 ?side3 ?side4 A22.out).mono ?_
                          (case side1 => repeat (first | exact (by repeat (first | (with_reducible exact HR192.out) | (with_reducible refine Kd.C_alloc ?_ _) | (with_reducible refine Kd.C_drewN ?_ _) | (with_reducible refine Kd.C_drew ?_) | exact HR192.out)) | (with_reducible refine Kd.C_alloc ?_ _) | (with_reducible refine Kd.C_drewN ?_ _) | (with_reducible refine Kd.C_drew ?_)))
                          (case side2 => exact HC192.out)
                          (case side3 => repeat (first | exact (by repeat (first | (with_reducible exact HR196.out) | (with_reducible refine Kd.C_alloc ?_ _) | (with_reducible refine Kd.C_drewN ?_ _) | (with_reducible refine Kd.C_drew ?_) | exact HR196.out)) | (with_reducible refine Kd.C_alloc ?_ _) | (with_reducible refine Kd.C_drewN ?_ _) | (with_reducible refine Kd.C_drew ?_)))
                          (case side4 => exact HC196.out)
                          rintro e w49 ⟨v199, rfl, ho0, hb⟩
                          refine ⟨_, rfl, ?_⟩
                          have n0_ := Aside0.mk (Kd.R_elder' (by (with_reducible repeat (first | apply Kd.R_alloc | apply Kd.R_drewN | apply Kd.R_drew)); exact HO_6.out) (Kd.R_base ho0) hb)
                          have n1_ := Aside0.mk (Kd.R_lower (Kd.R_new' ho0 (Kd.R_lt (by (with_reducible repeat (first | apply Kd.R_alloc | apply Kd.R_drewN | apply Kd.R_drew)); exact HO_6.out))) (below_size (by repeat (first | (with_reducible first | exact HB.out | apply below_alloc | apply pw_below_drewN | apply below_drew1) | exact HB.out))))
                          have n2_ := Aside0.mk (Kd.C_below (by repeat (first | (with_reducible exact HR192.out) | (with_reducible refine Kd.C_alloc ?_ _) | (with_reducible refine Kd.C_drewN ?_ _) | (with_reducible refine Kd.C_drew ?_) | exact HR192.out)) hb)
                          have n3_ := Aside0.mk (Kd.C_below (by repeat (first | (with_reducible exact HR196.out) | (with_reducible refine Kd.C_alloc ?_ _) | (with_reducible refine Kd.C_drewN ?_ _) | (with_reducible refine Kd.C_drew ?_) | exact HR196.out)) hb)
                          have n4_ := Aside0.mk (below_step (by repeat (first | (with_reducible first | exact HB.out | apply below_alloc | apply pw_below_drewN | apply below_drew1) | exact HB.out)) hb)
                          clear HO_6
                          clear HR192
                          clear HR196
                          clear HB
                          have HO_6 := n0_
                          have HO200 := n1_
                          have HR192 := n2_
                          have HR196 := n3_
                          have HB := n4_
                          clear n0_ n1_ n2_ n3_ n4_
                          (try clear hb)
                          (try clear hb2)
                          (try clear hk)
                          (try clear hi)
                          (try clear ho0)
                          refine hK.out _ _ trivial (fun hHeld => ?_)
                          clear hK K
                          refine norm_ (a' := ?_) ?_ ?_
                          rotate_left
                          · show Act.put _ (some 34) _ = _
                            simp only [Act.put, List.setIfInBounds_toArray, List.set_cons_zero, List.set_cons_succ, i64_w, i32_w]
                            rfl
                          refine pure_ (i := 7) (N := some 27) (v := ?_) (a' := ?_) #[true, true, true, true, true, true, true, true, false, false, false, false] rfl rfl (any_of HT_.out (by kernel_rfl)) (fun _ _ _ h => h) (Or.inl ⟨by rfl, ?_⟩) ?_ ?_
                          rotate_left
                          · intro w'
                            go_simp
                            with_reducible rfl
                          rotate_left
                          · simp only [Act.put, List.setIfInBounds_toArray, List.set_cons_zero, List.set_cons_succ, i64_w, i32_w]
                            rfl
                          refine pure_ (i := 8) (N := some 35) (v := ?_) (a' := ?_) #[true, true, true, true, true, true, true, true, true, false, false, false] rfl rfl (any_of HT_.out (by kernel_rfl)) (fun _ _ _ h => h) (Or.inl ⟨by rfl, ?_⟩) ?_ ?_
                          rotate_left
                          · intro w'
                            go_simp
                            with_reducible rfl
                          rotate_left
                          · simp only [Act.put, List.setIfInBounds_toArray, List.set_cons_zero, List.set_cons_succ, i64_w, i32_w]
                            rfl
                          refine pure_ (i := 9) (N := some 36) (v := ?_) (a' := ?_) #[true, true, true, true, true, true, true, true, true, true, false, false] rfl rfl (any_of HT_.out (by kernel_rfl)) (fun _ _ _ h => h) (Or.inl ⟨by rfl, ?_⟩) ?_ ?_
                          rotate_left
                          · intro w'
                            go_simp
                            with_reducible rfl
                          rotate_left
                          · simp only [Act.put, List.setIfInBounds_toArray, List.set_cons_zero, List.set_cons_succ, i64_w, i32_w]
                            rfl
                          refine pure_ (i := 10) (N := some 9) (v := ?_) (a' := ?_) #[true, true, true, true, true, true, true, true, true, true, true, false] rfl rfl (any_of HT_.out (by kernel_rfl)) (fun _ _ _ h => h) (Or.inl ⟨by rfl, ?_⟩) ?_ ?_
                          rotate_left
                          · intro w'
                            go_simp
                            with_reducible rfl
                          rotate_left
                          · simp only [Act.put, List.setIfInBounds_toArray, List.set_cons_zero, List.set_cons_succ, i64_w, i32_w]
                            rfl
                          refine pure_ (i := 11) (N := some 10) (v := ?_) (a' := ?_) #[true, true, true, true, true, true, true, true, true, true, true, true] rfl rfl (any_of HT_.out (by kernel_rfl)) (fun _ _ _ h => h) (Or.inl ⟨by rfl, ?_⟩) ?_ ?_
                          rotate_left
                          · intro w'
                            go_simp
                            with_reducible rfl
                          rotate_left
                          · simp only [Act.put, List.setIfInBounds_toArray, List.set_cons_zero, List.set_cons_succ, i64_w, i32_w]
                            rfl
                          refine done_ (done_of HT_.out (by kernel_rfl)) ?_
                          try go_wp2_with (first | ((with_reducible refine gate_callee (f := 14) rfl ?_); refine goesL_ (some 38) rfl rfl Try.func14 (by kernel_rfl) rfl #[.slice Ao47 x6_1.length co47] rfl (by (try simp only [List.map_toArray, List.map_cons, List.map_nil]); first | done | rfl | (simp only [List.length_drop, List.length_take]; rfl)) ?_; (with_reducible refine (book_Book.calls k1 _ _ x6_1 t201 _ ?side1 ?side2 A23.out).mono ?_); (case side1 => repeat (first | exact (Kd.R_reads' HO_6.out).2.2 | (with_reducible refine Kd.C_alloc ?_ _) | (with_reducible refine Kd.C_drewN ?_ _) | (with_reducible refine Kd.C_drew ?_))); (case side2 => exact (Kd.R_reads' HO_6.out).2.1); rintro e w50 ⟨rfl, hb⟩; refine ⟨_, rfl, ?_⟩; have n0_ := Aside0.mk (Kd.R_below (by (with_reducible repeat (first | apply Kd.R_alloc | apply Kd.R_drewN | apply Kd.R_drew)); exact HO_6.out) hb); have n1_ := Aside0.mk (Kd.R_below (by (with_reducible repeat (first | apply Kd.R_alloc | apply Kd.R_drewN | apply Kd.R_drew)); exact HO200.out) hb); have n2_ := Aside0.mk (Kd.C_below (by repeat (first | (with_reducible exact HR192.out) | (with_reducible refine Kd.C_alloc ?_ _) | (with_reducible refine Kd.C_drewN ?_ _) | (with_reducible refine Kd.C_drew ?_) | exact HR192.out)) hb); have n3_ := Aside0.mk (Kd.C_below (by repeat (first | (with_reducible exact HR196.out) | (with_reducible refine Kd.C_alloc ?_ _) | (with_reducible refine Kd.C_drewN ?_ _) | (with_reducible refine Kd.C_drew ?_) | exact HR196.out)) hb); have n4_ := Aside0.mk (below_step (by repeat (first | (with_reducible first | exact HB.out | apply below_alloc | apply pw_below_drewN | apply below_drew1) | exact HB.out)) hb); clear HO_6; clear HO200; clear HR192; clear HR196; clear HB; have HO_6 := n0_; have HO200 := n1_; have HR192 := n2_; have HR196 := n3_; have HB := n4_; clear n0_ n1_ n2_ n3_ n4_; (try clear hb); (try clear hb2); (try clear hk); (try clear hi); obtain ⟨Ao51, co51, eo51⟩ := Kd.R_slice HO200.out; subst eo51) | (go_at_call 15; (with_reducible refine (book_Net.calls k1 _ _ t197 1 t204 _ ?side1 ?side2 A42.out).mono ?_); (case side1 => repeat (first | exact (Kd.R_reads' HO200.out).2.2 | (with_reducible refine Kd.C_alloc ?_ _) | (with_reducible refine Kd.C_drewN ?_ _) | (with_reducible refine Kd.C_drew ?_))); (case side2 => exact (Kd.R_reads' HO200.out).2.1); rintro e w52 ⟨rfl, hb⟩; have n0_ := Aside0.mk (Kd.R_below (by (with_reducible repeat (first | apply Kd.R_alloc | apply Kd.R_drewN | apply Kd.R_drew)); exact HO_6.out) hb); have n1_ := Aside0.mk (Kd.R_below (by (with_reducible repeat (first | apply Kd.R_alloc | apply Kd.R_drewN | apply Kd.R_drew)); exact HO200.out) hb); have n2_ := Aside0.mk (Kd.C_below (by repeat (first | (with_reducible exact HR192.out) | (with_reducible refine Kd.C_alloc ?_ _) | (with_reducible refine Kd.C_drewN ?_ _) | (with_reducible refine Kd.C_drew ?_) | exact HR192.out)) hb); have n3_ := Aside0.mk (Kd.C_below (by repeat (first | (with_reducible exact HR196.out) | (with_reducible refine Kd.C_alloc ?_ _) | (with_reducible refine Kd.C_drewN ?_ _) | (with_reducible refine Kd.C_drew ?_) | exact HR196.out)) hb); have n4_ := Aside0.mk (below_step (by repeat (first | (with_reducible first | exact HB.out | apply below_alloc | apply pw_below_drewN | apply below_drew1) | exact HB.out)) hb); clear HO_6; clear HO200; clear HR192; clear HR196; clear HB; have HO_6 := n0_; have HO200 := n1_; have HR192 := n2_; have HR196 := n3_; have HB := n4_; clear n0_ n1_ n2_ n3_ n4_; (try clear hb); (try clear hb2); (try clear hk); (try clear hi)) | (go_at_call 16; (with_reducible refine (payrolllaw35_awake.calls k1  t205 _ A44.out).mono ?_); rintro e w53 ⟨rfl, hb⟩; have n0_ := Aside0.mk (Kd.R_below (by (with_reducible repeat (first | apply Kd.R_alloc | apply Kd.R_drewN | apply Kd.R_drew)); exact HO_6.out) hb); have n1_ := Aside0.mk (Kd.R_below (by (with_reducible repeat (first | apply Kd.R_alloc | apply Kd.R_drewN | apply Kd.R_drew)); exact HO200.out) hb); have n2_ := Aside0.mk (Kd.C_below (by repeat (first | (with_reducible exact HR192.out) | (with_reducible refine Kd.C_alloc ?_ _) | (with_reducible refine Kd.C_drewN ?_ _) | (with_reducible refine Kd.C_drew ?_) | exact HR192.out)) hb); have n3_ := Aside0.mk (Kd.C_below (by repeat (first | (with_reducible exact HR196.out) | (with_reducible refine Kd.C_alloc ?_ _) | (with_reducible refine Kd.C_drewN ?_ _) | (with_reducible refine Kd.C_drew ?_) | exact HR196.out)) hb); have n4_ := Aside0.mk (below_step (by repeat (first | (with_reducible first | exact HB.out | apply below_alloc | apply pw_below_drewN | apply below_drew1) | exact HB.out)) hb); clear HO_6; clear HO200; clear HR192; clear HR196; clear HB; have HO_6 := n0_; have HO200 := n1_; have HR192 := n2_; have HR196 := n3_; have HB := n4_; clear n0_ n1_ n2_ n3_ n4_; (try clear hb); (try clear hb2); (try clear hk); (try clear hi)))
                          go_ret
                          exact ⟨by first | rfl | (simp [errW_none, errW_some] <;> rfl) | (simp only [← hji4, ← hji17]; first | rfl | (simp [errW_none, errW_some] <;> rfl)) | (simp [*, errW_none, errW_some] <;> rfl), by repeat (first | (with_reducible first | exact HB.out | apply below_alloc | apply pw_below_drewN | apply below_drew1) | exact HB.out)⟩
                        · rw [if_neg c43] at H
                          exact absurd H (by simp)
                      · rw [if_neg c41] at H
                        exact absurd H (by simp)
                    · rw [if_neg c40] at H
                      exact absurd H (by simp)
              · rw [if_neg c19] at H
                exact absurd H (by simp)
            · rw [if_neg c18] at H
              exact absurd H (by simp)
    · rw [if_neg c6] at H
      exact absurd H (by simp)
  · rw [if_neg c5] at H
    exact absurd H (by simp)

/-- THE ONE PURE STATEMENT of payrolllaw35_BookLimits: yours. -/
def payrolllaw35_BookLimits.Pure : Prop := ∀ (a0 : Int) (a1 : Int), (Lit.int .i64 a0).wf = true → (Lit.int .i64 a1).wf = true → ∃ k, payrolllaw35_BookLimits.f k a0 a1 = some true
theorem payrolllaw35_BookLimits.walk (P : payrolllaw35_BookLimits.Pure) (a0 : Int) (a1 : Int) (w : World) (w0 : (Lit.int .i64 a0).wf = true) (w1 : (Lit.int .i64 a1).wf = true) :
    Calls Try.prog 3 #[.int .i64 a0, .int .i64 a1] w fun e w' => e = .returned (.bool true) ∧ Below w.heap.size w w' := by
  obtain ⟨k, h⟩ := P a0 a1 w0 w1
  refine (payrolllaw35_BookLimits.calls k a0 a1 true w h).mono ?_
  rintro e w' ⟨rfl, hd⟩
  exact ⟨rfl, hd⟩

end Go.Proofs.Ytelmnkmpkljboaa.Q
