-- Printed by wip/xprint.py over the translation, with contracts proved by hand among them. Lean checks it.
import Derived.Test.YtdlljjglmcpniaaQx0
import Derived.Test.YtdlljjglmcpniaaQx4
namespace Go.Proofs.Ytdlljjglmcpniaa.Q
open Go.RowKit Go.Proofs.YtdlljjglmcpniaaW.PrintWords Go.Proofs.YtdlljjglmcpniaaW.PrintLast Go.Proofs.YtdlljjglmcpniaaW.PrintMore
attribute [local go_sem] max2_int min2_int max_two min_two max_three min_three max_four min_four   -- for this text's walks alone
set_option linter.unusedVariables false
set_option linter.unusedSimpArgs false

/-! ### delta_Postings: function 16 -/
mutual
def delta_Postings.j0 : Nat → Int → Int → Int → List (S56) → Bool → Option ((List (S58)) × Int)
  | 0, _, _, _, _, _ => none
  | k + 1, x0, x1, x2, x12, x47 => if x47 = true then (some (([] : List (S58)), 2)) else (delta_Postings.l0 k x0 x1 x2 ([] : List (S58)) x12 (x12.length : Int) 0)
def delta_Postings.l0 : Nat → Int → Int → Int → List (S58) → List (S56) → Int → Int → Option ((List (S58)) × Int)
  | 0, _, _, _, _, _, _, _ => none
  | k + 1, x0, x1, x2, x14, x48, x49, x50 => if x50 < x49 then (if 0 ≤ x50 then (if x50 < (x48.length : Int) then (if x14.length < 2513169434916 then (delta_Postings.l0 k x0 x1 x2 (x14 ++ [(⟨x0, x1, x2, (⟨(rd_T56 x48 x50).f0, (rd_T56 x48 x50).f1, (rd_T56 x48 x50).f2⟩ : S56)⟩ : S58)]) x48 x49 (wrap64 (x50 + 1))) else (none)) else (none)) else (none)) else (some (x14, 0))
end
def delta_Postings.f (k : Nat) (a0 : Int) (a1 : Int) (a2 : Int) (l3 : List (S56)) (l4 : List (S56)) : Option ((List (S58)) × Int) := (payslip_Compare.f k l3 l4).bind fun bt112 => (if bt112.2 = 0 then (if a0 < 1 then (delta_Postings.j0 k a0 a1 a2 bt112.1 true) else (if a0 > 256 then (delta_Postings.j0 k a0 a1 a2 bt112.1 true) else (if a1 < 1 then (delta_Postings.j0 k a0 a1 a2 bt112.1 true) else (if a1 > 2147483647 then (delta_Postings.j0 k a0 a1 a2 bt112.1 true) else (if a2 < 0 then (delta_Postings.j0 k a0 a1 a2 bt112.1 true) else (delta_Postings.j0 k a0 a1 a2 bt112.1 (decide (a2 > 84005)))))))) else (some (([] : List (S58)), bt112.2)))
theorem delta_Postings.mono_l : ∀ k, (∀ y0 y1 y2 y3 y4, LeO (delta_Postings.j0 k y0 y1 y2 y3 y4) (delta_Postings.j0 (k + 1) y0 y1 y2 y3 y4)) ∧ (∀ y0 y1 y2 y3 y4 y5 y6, LeO (delta_Postings.l0 k y0 y1 y2 y3 y4 y5 y6) (delta_Postings.l0 (k + 1) y0 y1 y2 y3 y4 y5 y6))
  | 0 => ⟨fun _ _ _ _ _ r h => by simp [delta_Postings.j0] at h, fun _ _ _ _ _ _ _ r h => by simp [delta_Postings.l0] at h⟩
  | k + 1 => by
    obtain ⟨ih0, ih1⟩ := delta_Postings.mono_l k
    refine ⟨?_, ?_⟩
    · intro y0 y1 y2 y3 y4
      unfold delta_Postings.j0
      repeat' first
      | (with_reducible exact ih0 _ _ _ _ _)
      | (with_reducible exact ih1 _ _ _ _ _ _ _)
      | (with_reducible exact payslip_Compare.mono _ _ _)
      | (with_reducible exact LeO.refl _)
      | (with_reducible exact LeO.none _)
      | (with_reducible refine LeO.ite ?_ ?_)
      | (with_reducible refine LeO.bind ?_ (fun _ => ?_))
      | exact ih0 _ _ _ _ _
      | exact ih1 _ _ _ _ _ _ _
      | exact payslip_Compare.mono _ _ _
      | exact LeO.none _
      | refine LeO.ite ?_ ?_
      | refine LeO.bind ?_ (fun _ => ?_)
    · intro y0 y1 y2 y3 y4 y5 y6
      unfold delta_Postings.l0
      repeat' first
      | (with_reducible exact ih0 _ _ _ _ _)
      | (with_reducible exact ih1 _ _ _ _ _ _ _)
      | (with_reducible exact payslip_Compare.mono _ _ _)
      | (with_reducible exact LeO.refl _)
      | (with_reducible exact LeO.none _)
      | (with_reducible refine LeO.ite ?_ ?_)
      | (with_reducible refine LeO.bind ?_ (fun _ => ?_))
      | exact ih0 _ _ _ _ _
      | exact ih1 _ _ _ _ _ _ _
      | exact payslip_Compare.mono _ _ _
      | exact LeO.none _
      | refine LeO.ite ?_ ?_
      | refine LeO.bind ?_ (fun _ => ?_)
theorem delta_Postings.mono : ∀ a0 a1 a2 a3 a4 k, LeO (delta_Postings.f k a0 a1 a2 a3 a4) (delta_Postings.f (k + 1) a0 a1 a2 a3 a4) := by
  intro a0 a1 a2 a3 a4 k
  obtain ⟨ih0, ih1⟩ := delta_Postings.mono_l k
  unfold delta_Postings.f
  repeat' first
      | (with_reducible exact ih0 _ _ _ _ _)
      | (with_reducible exact ih1 _ _ _ _ _ _ _)
      | (with_reducible exact payslip_Compare.mono _ _ _)
      | (with_reducible exact LeO.refl _)
      | (with_reducible exact LeO.none _)
      | (with_reducible refine LeO.ite ?_ ?_)
      | (with_reducible refine LeO.bind ?_ (fun _ => ?_))
      | exact ih0 _ _ _ _ _
      | exact ih1 _ _ _ _ _ _ _
      | exact payslip_Compare.mono _ _ _
      | exact LeO.none _
      | refine LeO.ite ?_ ?_
      | refine LeO.bind ?_ (fun _ => ?_)
set_option maxHeartbeats 8000000 in
set_option maxRecDepth 100000 in
theorem delta_Postings.calls (k : Nat) (a0 : Int) (a1 : Int) (a2 : Int) (A3 : Option Addr) (c3 : Nat) (l3 : List (S56)) (A4 : Option Addr) (c4 : Nat) (l4 : List (S56)) (r1 : List (S58)) (r2 : Int) (w : World) (hr3 : Kd.C k56 w A3 l3.length l3) (hc3 : l3.length ≤ c3) (hr4 : Kd.C k56 w A4 l4.length l4) (hc4 : l4.length ≤ c4) (h : delta_Postings.f k a0 a1 a2 l3 l4 = some (r1, r2)) :
    Calls Try.prog 16 #[.int .i64 a0, .int .i64 a1, .int .i64 a2, .slice A3 l3.length c3, .slice A4 l4.length c4] w fun e w' => ∃ v0_ : Value, e = .returned (.tuple #[v0_, .int .i64 r2]) ∧ Kd.R k58 58 w' w.heap.size (fun _ => True) v0_ r1 ∧ Below w.heap.size w w' := by
  have hu56 := Try.underlying56
  have hu58 := Try.underlying58
  have HR3 := Aside0.mk hr3
  have HC3 := Aside0.mk hc3
  clear hr3 hc3
  have HR4 := Aside0.mk hr4
  have HC4 := Aside0.mk hc4
  clear hr4 hc4
  have HB := Aside0.mk (Below.refl w.heap.size w)
  have H : ((payslip_Compare.f k l3 l4).bind fun bt112 => (if bt112.2 = 0 then (if a0 < 1 then (delta_Postings.j0 k a0 a1 a2 bt112.1 true) else (if a0 > 256 then (delta_Postings.j0 k a0 a1 a2 bt112.1 true) else (if a1 < 1 then (delta_Postings.j0 k a0 a1 a2 bt112.1 true) else (if a1 > 2147483647 then (delta_Postings.j0 k a0 a1 a2 bt112.1 true) else (if a2 < 0 then (delta_Postings.j0 k a0 a1 a2 bt112.1 true) else (delta_Postings.j0 k a0 a1 a2 bt112.1 (decide (a2 > 84005)))))))) else (some (([] : List (S58)), bt112.2)))) = some (r1, r2) := h
  clear h
  replace H := Option.bind_eq_some_iff.mp H
  obtain ⟨⟨t112, t113⟩, A60, H⟩ := H
  replace H : (if t113 = 0 then (if a0 < 1 then (delta_Postings.j0 k a0 a1 a2 t112 true) else (if a0 > 256 then (delta_Postings.j0 k a0 a1 a2 t112 true) else (if a1 < 1 then (delta_Postings.j0 k a0 a1 a2 t112 true) else (if a1 > 2147483647 then (delta_Postings.j0 k a0 a1 a2 t112 true) else (if a2 < 0 then (delta_Postings.j0 k a0 a1 a2 t112 true) else (delta_Postings.j0 k a0 a1 a2 t112 (decide (a2 > 84005)))))))) else (some (([] : List (S58)), t113))) = some (r1, r2) := H
  have A6 := Aside0.mk A60
  clear A60
  by_cases c7 : t113 = 0
  · rw [if_pos c7] at H
    have c7b0 : (t113 == 0) = true := beq_iff_eq.mpr c7
    have c7b1 : (t113 != 0) = false := bne_eq_false_iff_eq.mpr c7
    clear c7
    have HC8 := Aside0.mk H
    clear H
    go_enter Try.func16, Try.ntmps16
    go_upto_region 4 with (first | ((with_reducible refine gate_callee (f := 35) rfl ?_); refine goesL_ (some 20) rfl rfl Try.func35 (by kernel_rfl) rfl #[.slice A3 l3.length c3, .slice A4 l4.length c4] rfl (by (try simp only [List.map_toArray, List.map_cons, List.map_nil]); first | done | rfl | (simp only [List.length_drop, List.length_take]; rfl)) ?_; (with_reducible refine (payslip_Compare.calls k _ _ l3 _ _ l4 t112 t113 _ ?side1 ?side2 ?side3 ?side4 A6.out).mono ?_); (case side1 => repeat (first | exact HR3.out | (with_reducible refine Kd.C_alloc ?_ _) | (with_reducible refine Kd.C_drewN ?_ _) | (with_reducible refine Kd.C_drew ?_))); (case side2 => exact HC3.out); (case side3 => repeat (first | exact HR4.out | (with_reducible refine Kd.C_alloc ?_ _) | (with_reducible refine Kd.C_drewN ?_ _) | (with_reducible refine Kd.C_drew ?_))); (case side4 => exact HC4.out); rintro e w9 ⟨v114, rfl, ho0, hb⟩; refine ⟨_, rfl, ?_⟩; have n0_ := Aside0.mk (Kd.R_lower ho0 (below_size (by repeat (first | (with_reducible first | exact HB.out | apply below_alloc | apply pw_below_drewN | apply below_drew1) | exact HB.out)))); have n1_ := Aside0.mk (below_step (by repeat (first | (with_reducible first | exact HB.out | apply below_alloc | apply pw_below_drewN | apply below_drew1) | exact HB.out)) hb); clear HB; have HO115 := n0_; have HB := n1_; clear n0_ n1_; (try clear hb); (try clear hb2); (try clear hk); (try clear hi); (try clear ho0)))
    (try simp only [Act.put, List.setIfInBounds_toArray, List.set_cons_zero, List.set_cons_succ])
    go_cut [47] (fun v47 wc => ∃ (kq : Nat) (x47_7 : Bool), v47 = .bool x47_7 ∧ Aside0 (delta_Postings.j0 kq a0 a1 a2 t112 x47_7 = some (r1, r2)) ∧ Aside0 (kq ≤ k) ∧ Aside0 (Kd.R k56 56 wc w.heap.size (fun _ => True) v114 t112) ∧ Aside0 (Below w.heap.size w wc))
    case first =>
      have H := HC8.out
      clear HC8
      by_cases c10 : a0 < 1
      · rw [if_pos c10] at H
        have c10b0 : decide (a0 < 1) = true := decide_eq_true c10
        clear c10
        (first | rw [c10b0] | (simp only [i64_w, i32_w]; rw [c10b0]) | skip)
        have H' := Aside0.mk H
        clear H
        go_wp2
        go_meet
        case rel => exact ⟨_, (true), (by first | rfl | (simp; done) | (simp [*]; done)), H', ⟨by first | omega | exact Nat.le_refl _⟩, ⟨by (with_reducible repeat (first | apply Kd.R_alloc | apply Kd.R_drewN | apply Kd.R_drew)); exact HO115.out⟩, ⟨by repeat (first | (with_reducible first | exact HB.out | apply below_alloc | apply pw_below_drewN | apply below_drew1) | exact HB.out)⟩⟩
      · rw [if_neg c10] at H
        have c10b0 : decide (a0 < 1) = false := decide_eq_false c10
        clear c10
        (first | rw [c10b0] | (simp only [i64_w, i32_w]; rw [c10b0]) | skip)
        by_cases c11 : a0 > 256
        · rw [if_pos c11] at H
          have c11b0 : decide (256 < a0) = true := decide_eq_true c11
          clear c11
          have H' := Aside0.mk H
          clear H
          go_wp2
          go_meet
          case rel => exact ⟨_, (true), (by first | rfl | (simp; done) | (simp [*]; done)), H', ⟨by first | omega | exact Nat.le_refl _⟩, ⟨by (with_reducible repeat (first | apply Kd.R_alloc | apply Kd.R_drewN | apply Kd.R_drew)); exact HO115.out⟩, ⟨by repeat (first | (with_reducible first | exact HB.out | apply below_alloc | apply pw_below_drewN | apply below_drew1) | exact HB.out)⟩⟩
        · rw [if_neg c11] at H
          have c11b0 : decide (256 < a0) = false := decide_eq_false c11
          clear c11
          by_cases c12 : a1 < 1
          · rw [if_pos c12] at H
            have c12b0 : decide (a1 < 1) = true := decide_eq_true c12
            clear c12
            have H' := Aside0.mk H
            clear H
            go_wp2
            go_meet
            case rel => exact ⟨_, (true), (by first | rfl | (simp; done) | (simp [*]; done)), H', ⟨by first | omega | exact Nat.le_refl _⟩, ⟨by (with_reducible repeat (first | apply Kd.R_alloc | apply Kd.R_drewN | apply Kd.R_drew)); exact HO115.out⟩, ⟨by repeat (first | (with_reducible first | exact HB.out | apply below_alloc | apply pw_below_drewN | apply below_drew1) | exact HB.out)⟩⟩
          · rw [if_neg c12] at H
            have c12b0 : decide (a1 < 1) = false := decide_eq_false c12
            clear c12
            by_cases c13 : a1 > 2147483647
            · rw [if_pos c13] at H
              have c13b0 : decide (2147483647 < a1) = true := decide_eq_true c13
              clear c13
              have H' := Aside0.mk H
              clear H
              go_wp2
              go_meet
              case rel => exact ⟨_, (true), (by first | rfl | (simp; done) | (simp [*]; done)), H', ⟨by first | omega | exact Nat.le_refl _⟩, ⟨by (with_reducible repeat (first | apply Kd.R_alloc | apply Kd.R_drewN | apply Kd.R_drew)); exact HO115.out⟩, ⟨by repeat (first | (with_reducible first | exact HB.out | apply below_alloc | apply pw_below_drewN | apply below_drew1) | exact HB.out)⟩⟩
            · rw [if_neg c13] at H
              have c13b0 : decide (2147483647 < a1) = false := decide_eq_false c13
              clear c13
              by_cases c14 : a2 < 0
              · rw [if_pos c14] at H
                have c14b0 : decide (a2 < 0) = true := decide_eq_true c14
                clear c14
                have H' := Aside0.mk H
                clear H
                go_wp2
                go_meet
                case rel => exact ⟨_, (true), (by first | rfl | (simp; done) | (simp [*]; done)), H', ⟨by first | omega | exact Nat.le_refl _⟩, ⟨by (with_reducible repeat (first | apply Kd.R_alloc | apply Kd.R_drewN | apply Kd.R_drew)); exact HO115.out⟩, ⟨by repeat (first | (with_reducible first | exact HB.out | apply below_alloc | apply pw_below_drewN | apply below_drew1) | exact HB.out)⟩⟩
              · rw [if_neg c14] at H
                have c14b0 : decide (a2 < 0) = false := decide_eq_false c14
                clear c14
                have H' := Aside0.mk H
                clear H
                go_wp2
                go_meet
                case rel => exact ⟨_, (decide (a2 > 84005)), (by first | rfl | (simp; done) | (simp [*]; done)), H', ⟨by first | omega | exact Nat.le_refl _⟩, ⟨by (with_reducible repeat (first | apply Kd.R_alloc | apply Kd.R_drewN | apply Kd.R_drew)); exact HO115.out⟩, ⟨by repeat (first | (with_reducible first | exact HB.out | apply below_alloc | apply pw_below_drewN | apply below_drew1) | exact HB.out)⟩⟩
    case rest =>
      clear HC8
      try clear c1
      try clear p2
      try clear c3
      try clear c4
      try clear c7
      try clear c7b0
      try clear c7b1
      try clear c10
      try clear c10b0
      try clear c11
      try clear c11b0
      try clear c12
      try clear c12b0
      try clear c13
      try clear c13b0
      try clear c14
      try clear c14b0
      obtain ⟨kq, x47_7, rfl, HA, HJ7, HO_12, HB⟩ := hcut
      cases kq with
      | zero => exact absurd HA.out (by simp [delta_Postings.j0])
      | succ kj7 =>
        have H := HA.out
        clear HA
        simp only [delta_Postings.j0] at H
        by_cases c15 : x47_7 = true
        · subst c15
          have H1 : (some (([] : List (S58)), 2)) = some (r1, r2) := by rw [if_pos rfl] at H; exact H
          clear H
          have H := H1
          clear H1
          simp only [Option.some.injEq, Prod.mk.injEq] at H
          obtain ⟨rfl, rfl⟩ := H
          go_wp2
          go_ret2
          exact ⟨_, by first | rfl | (simp [errW_none, errW_some] <;> rfl) | (simp [*, errW_none, errW_some] <;> rfl), by first | exact Kd.R_nil _ _ _ _ _ | exact Kd.N_nil _ _ _ _ _ | exact Kd.V_nil _ _ _ _ _ | exact Kd.Q_nil _ _ _ _ _ | exact Kd.S_nil _ _ _ _ _, by repeat (first | (with_reducible first | exact HB.out | apply below_alloc | apply pw_below_drewN | apply below_drew1) | exact HB.out)⟩
        · replace c15 := Bool.eq_false_iff.mpr c15
          subst c15
          have H1 : (delta_Postings.l0 kj7 a0 a1 a2 ([] : List (S58)) t112 (t112.length : Int) 0) = some (r1, r2) := by rw [if_neg (show ¬ (false = true) by decide)] at H; exact H
          clear H
          have H := H1
          clear H1
          have H' := Aside0.mk H
          clear H
          obtain ⟨Ao16, co16, eo16⟩ := Kd.R_slice HO_12.out
          subst eo16
          go_wp2
          go_loopg [14, 50] kj7 (fun kq v14 v50 w' => ∃ (x14_2 : List (S58)) (x50_2 : Int), v50 = .int .i64 x50_2 ∧ Aside0 (delta_Postings.l0 kq a0 a1 a2 x14_2 t112 (t112.length : Int) x50_2 = some (r1, r2)) ∧ Aside0 (kq ≤ kj7) ∧ Aside0 (Kd.R k58 58 w' w.heap.size (fun _ => True) v14 x14_2) ∧ Aside0 (Kd.R k56 56 w' w.heap.size (fun _ => True) (.slice Ao16 t112.length co16) t112) ∧ Aside0 (Below w.heap.size w w'))
          case atStart => exact ⟨(([] : List (S58))), (0), (by first | rfl | (simp; done) | (simp [*]; done)), H', ⟨Nat.le_refl _⟩, ⟨by first | exact Kd.R_nil _ _ _ _ _ | exact Kd.N_nil _ _ _ _ _ | exact Kd.V_nil _ _ _ _ _ | exact Kd.Q_nil _ _ _ _ _ | exact Kd.S_nil _ _ _ _ _⟩, ⟨by (with_reducible repeat (first | apply Kd.R_alloc | apply Kd.R_drewN | apply Kd.R_drew)); exact HO_12.out⟩, ⟨by repeat (first | (with_reducible first | exact HB.out | apply below_alloc | apply pw_below_drewN | apply below_drew1) | exact HB.out)⟩⟩
          case round =>
            clear H'
            try clear c1
            try clear p2
            try clear c3
            try clear c4
            try clear c7
            try clear c7b0
            try clear c7b1
            try clear c10
            try clear c10b0
            try clear c11
            try clear c11b0
            try clear c12
            try clear c12b0
            try clear c13
            try clear c13b0
            try clear c14
            try clear c14b0
            try clear c15
            try clear c16
            try clear p2
            obtain ⟨x14_2, x50_2, rfl, HA, HK2, HO_14, HO_48, HB⟩ := hrel
            cases gk with
            | zero => exact absurd HA.out (by simp [delta_Postings.l0])
            | succ k2 =>
              have H := HA.out
              clear HA
              simp only [delta_Postings.l0] at H
              by_cases c17 : x50_2 < (t112.length : Int)
              · rw [if_pos c17] at H
                have c17b0 : decide (x50_2 < (t112.length : Int)) = true := decide_eq_true c17
                clear c17
                by_cases c18 : 0 ≤ x50_2
                · rw [if_pos c18] at H
                  have c18b0 : decide (0 ≤ x50_2) = true := decide_eq_true c18
                  clear c18
                  by_cases c19 : x50_2 < (t112.length : Int)
                  · rw [if_pos c19] at H
                    have c19b0 : decide (x50_2 < (t112.length : Int)) = true := decide_eq_true c19
                    clear c19
                    by_cases c20 : x14_2.length < 2513169434916
                    · rw [if_pos c20] at H
                      have LMc20 := Aside0.mk c20
                      clear c20
                      obtain ⟨y118, hy118⟩ : ∃ y_ : List (S58), y_ = (x14_2 ++ [(⟨a0, a1, a2, (⟨(rd_T56 t112 x50_2).f0, (rd_T56 t112 x50_2).f1, (rd_T56 t112 x50_2).f2⟩ : S56)⟩ : S58)]) := ⟨_, rfl⟩
                      replace H : (delta_Postings.l0 k2 a0 a1 a2 y118 t112 (t112.length : Int) (wrap64 (x50_2 + 1))) = some (r1, r2) := by first | (rw [hy118]; with_reducible exact H) | (have H2_ := (Option.bind_some _ _).symm.trans H; rw [hy118]; with_reducible exact H2_) | (have H2_ := (Option.bind_some _ _).symm.trans H; with_reducible exact H2_) | with_reducible exact H | (rw [hy118]; exact H) | exact H
                      have Ny118 := Aside0.mk hy118
                      clear hy118
                      have H' := Aside0.mk H
                      clear H
                      have p116 : 0 ≤ (x50_2 : Int) := of_decide_eq_true (by first | (with_reducible assumption) | assumption)
                      have q116 : x50_2 < (t112.length : Int) := of_decide_eq_true (by first | (with_reducible assumption) | assumption)
                      obtain ⟨ad116, e116, hx116_0, hx116_1, hx116_2⟩ := at_T56 (Kd.R_reads' HO_48.out).2.2 x50_2 p116 q116
                      cases e116
                      replace p116 := eq_true p116
                      replace q116 := eq_true q116
                      go_wp2_with (first | ((with_reducible refine gate_dst (N := 16) rfl ?_); refine box_event ?hg (N := 16) ?hd (cs := #[.int .i64 0, .string (⟨#[]⟩ : ByteArray), .int .i64 0]) (t := 56) ?hr ?_; (case hd => rfl); (case hg => rfl); (case hr => first | (go_simp; done) | (go_simp; rfl)); intro gb117 hg w21 hbox hb; have n0_ := Aside0.mk (Kd.R_below (by (with_reducible repeat (first | apply Kd.R_alloc | apply Kd.R_drewN | apply Kd.R_drew)); exact HO_14.out) hb); have n1_ := Aside0.mk (Kd.R_below (Kd.R_elderB (by (with_reducible repeat (first | apply Kd.R_alloc | apply Kd.R_drewN | apply Kd.R_drew)); exact HO_48.out) gb117 (Nat.le_of_eq hg.symm)) hb); have n2_ := Aside0.mk (below_step (by repeat (first | (with_reducible first | exact HB.out | apply below_alloc | apply pw_below_drewN | apply below_drew1) | exact HB.out)) hb); have n3_ := Aside0.mk (hbox); have n4_ := Aside0.mk ((by rw [hg]; exact (below_size (by repeat (first | (with_reducible first | exact HB.out | apply below_alloc | apply pw_below_drewN | apply below_drew1) | exact HB.out))) : w.heap.size ≤ gb117)); have n5_ := Aside0.mk ((by rw [hg]; exact (below_size (by repeat (first | (with_reducible first | exact HB.out | apply below_alloc | apply pw_below_drewN | apply below_drew1) | exact HB.out))) : w.heap.size ≤ gb117)); clear HO_14; clear HO_48; clear HB; have HO_14 := n0_; have HO_48 := n1_; have HB := n2_; have BK117 := n3_; have GW117 := n4_; have GE117 := n5_; clear n0_ n1_ n2_ n3_ n4_ n5_; clear hb hbox hg; have hcz22_0 : w21.cell? ⟨gb117, 0, none⟩ = some (.int .i64 0) := (blk_cell BK117.out 0).trans rfl; have hcz22_1 : w21.cell? ⟨gb117, 1, none⟩ = some (.string (⟨#[]⟩ : ByteArray)) := (blk_cell BK117.out 1).trans rfl; have hcz22_2 : w21.cell? ⟨gb117, 2, none⟩ = some (.int .i64 0) := (blk_cell BK117.out 2).trans rfl; have hfz22_0 := blk_frozen BK117.out 0; have hfz22_1 := blk_frozen BK117.out 1; have hfz22_2 := blk_frozen BK117.out 2) | ((with_reducible refine gate_builtin (b := .append) (xs := #[.tmp 54, .tmp 60]) rfl ?_); at_builtin; refine Kd.R_append k58 (w0 := w) w.heap.size rfl (.tmp 54) (.tmp 60) 30 58 (.agg #[(.int .i64 0), (.int .i64 0), (.int .i64 0), (.int .i64 0), (.string ⟨#[]⟩), (.int .i64 0)]) 56 rfl Try.underlying30 info58 rfl (by decide) (by omega) u14 x14_2 (⟨a0, a1, a2, (⟨(rd_T56 t112 x50_2).f0, (rd_T56 t112 x50_2).f1, (rd_T56 t112 x50_2).f2⟩ : S56)⟩ : S58) [.int .i64 a0, .int .i64 a1, .int .i64 a2, .int .i64 ((rd_T56 t112 x50_2).f0), .string ((rd_T56 t112 x50_2).f1), .int .i64 ((rd_T56 t112 x50_2).f2)] (fun _ => True) (fun _ => False) rfl (by first | (go_simp; done) | (go_simp; rfl)) ?aP (fun _ hk => hk.elim) ?aF ?aO ?aB ?aS ?aL ?_; (case aP => exact k58_mkM _ _ _ (⟨a0, a1, a2, (⟨(rd_T56 t112 x50_2).f0, (rd_T56 t112 x50_2).f1, (rd_T56 t112 x50_2).f2⟩ : S56)⟩ : S58)); (case aB => exact (by repeat (first | (with_reducible first | exact HB.out | apply below_alloc | apply pw_below_drewN | apply below_drew1 | refine below_set ?_ GE117.out) | exact HB.out))); (case aF => exact (fun _ _ => trivial)); (case aO => exact (by (with_reducible repeat (first | apply Kd.R_alloc | apply Kd.R_drewN | apply Kd.R_drew)); exact Kd.R_mono (Kd.R_far (p := ⟨gb117, 2, none⟩) (Kd.R_far (p := ⟨gb117, 1, none⟩) (Kd.R_far (p := ⟨gb117, 0, none⟩) (Kd.R_types HO_14.out BK117.out (by decide)) (fun _ hk => hk.2) (.int .i64 ((rd_T56 t112 x50_2).f0))) (fun _ hk => hk.2) (.string ((rd_T56 t112 x50_2).f1))) (fun _ hk => hk.2) (.int .i64 ((rd_T56 t112 x50_2).f2))) (fun _ hk => trivial))); (case aS => exact (below_size (by repeat (first | (with_reducible first | exact HB.out | apply below_alloc | apply pw_below_drewN | apply below_drew1 | refine below_set ?_ GE117.out) | exact HB.out)))); (case aL => have := LMc20.out; omega); intro v119 w23 ho hb hg hat; rw [← Ny118.out] at ho; have n0_ := Aside0.mk (Kd.R_over' (by (with_reducible repeat (first | apply Kd.R_alloc | apply Kd.R_drewN | apply Kd.R_drew)); exact (Kd.R_mono (Kd.R_far (p := ⟨gb117, 2, none⟩) (Kd.R_far (p := ⟨gb117, 1, none⟩) (Kd.R_far (p := ⟨gb117, 0, none⟩) (Kd.R_mono HO_48.out (fun k_ hk => (⟨hk, hk.2⟩ : _ ∧ k_ ≠ gb117))) (fun _ hk => hk.2) (.int .i64 ((rd_T56 t112 x50_2).f0))) (fun _ hk => hk.2) (.string ((rd_T56 t112 x50_2).f1))) (fun _ hk => hk.2) (.int .i64 ((rd_T56 t112 x50_2).f2))) (fun _ h_ => h_.1))) (Kd.R_typed (by (with_reducible repeat (first | apply Kd.R_alloc | apply Kd.R_drewN | apply Kd.R_drew)); exact (Kd.R_mono (Kd.R_far (p := ⟨gb117, 2, none⟩) (Kd.R_far (p := ⟨gb117, 1, none⟩) (Kd.R_far (p := ⟨gb117, 0, none⟩) (Kd.R_types HO_14.out BK117.out (by decide)) (fun _ hk => hk.2) (.int .i64 ((rd_T56 t112 x50_2).f0))) (fun _ hk => hk.2) (.string ((rd_T56 t112 x50_2).f1))) (fun _ hk => hk.2) (.int .i64 ((rd_T56 t112 x50_2).f2))) (fun _ h_ => h_.1)))) (by decide) hg); have n1_ := Aside0.mk (blk_grown (g := gb117) (o := .cells #[.int .i64 ((rd_T56 t112 x50_2).f0), .string ((rd_T56 t112 x50_2).f1), .int .i64 ((rd_T56 t112 x50_2).f2)] 56 (0, 0)) (by (with_reducible repeat (first | refine blk_drewN ?_ _ | refine blk_drew ?_ | refine blk_alloc ?_ _)); refine blk_put (cs := #[.int .i64 ((rd_T56 t112 x50_2).f0), .string ((rd_T56 t112 x50_2).f1), .int .i64 0]) ?_ 2 _ rfl; (with_reducible repeat (first | refine blk_drewN ?_ _ | refine blk_drew ?_ | refine blk_alloc ?_ _)); refine blk_put (cs := #[.int .i64 ((rd_T56 t112 x50_2).f0), .string (⟨#[]⟩ : ByteArray), .int .i64 0]) ?_ 1 _ rfl; (with_reducible repeat (first | refine blk_drewN ?_ _ | refine blk_drew ?_ | refine blk_alloc ?_ _)); refine blk_put (cs := #[.int .i64 0, .string (⟨#[]⟩ : ByteArray), .int .i64 0]) ?_ 0 _ rfl; (with_reducible repeat (first | refine blk_drewN ?_ _ | refine blk_drew ?_ | refine blk_alloc ?_ _)); exact BK117.out) hg (Kd.R_ne HO_14.out BK117.out (by decide))); have n2_ := Aside0.mk (hb); have n3_ := Aside0.mk (ho); clear HO_48; clear BK117; clear HB; clear HO_14; have HO_48 := n0_; have BK117 := n1_; have HB := n2_; have HO120 := n3_; clear n0_ n1_ n2_ n3_; clear ho hb hg hat))
                      go_roundg k2
                      case measure => have := HJ7.out; have := HK2.out; omega
                      case rel => exact ⟨(y118), (wrap64 (x50_2 + 1)), (by first | rfl | (simp; done) | (simp [*]; done)), H', ⟨by have := HJ7.out; have := HK2.out; omega⟩, ⟨by (with_reducible repeat (first | apply Kd.R_alloc | apply Kd.R_drewN | apply Kd.R_drew)); exact HO120.out⟩, ⟨by (with_reducible repeat (first | apply Kd.R_alloc | apply Kd.R_drewN | apply Kd.R_drew)); exact Kd.R_mono HO_48.out (fun _ hk => trivial)⟩, ⟨by repeat (first | (with_reducible first | exact HB.out | apply below_alloc | apply pw_below_drewN | apply below_drew1 | refine below_set ?_ GE117.out) | exact HB.out)⟩⟩
                    · rw [if_neg c20] at H
                      exact absurd H (by simp)
                  · rw [if_neg c19] at H
                    exact absurd H (by simp)
                · rw [if_neg c18] at H
                  exact absurd H (by simp)
              · rw [if_neg c17] at H
                have c17b0 : decide (x50_2 < (t112.length : Int)) = false := decide_eq_false c17
                clear c17
                simp only [Option.some.injEq, Prod.mk.injEq] at H
                obtain ⟨rfl, rfl⟩ := H
                go_wp2
                go_ret2
                exact ⟨_, by first | rfl | (simp [errW_none, errW_some] <;> rfl) | (simp [*, errW_none, errW_some] <;> rfl), by (with_reducible repeat (first | apply Kd.R_alloc | apply Kd.R_drewN | apply Kd.R_drew)); exact HO_14.out, by repeat (first | (with_reducible first | exact HB.out | apply below_alloc | apply pw_below_drewN | apply below_drew1) | exact HB.out)⟩
  · rw [if_neg c7] at H
    have c7b0 : (t113 == 0) = false := beq_eq_false_iff_ne.mpr c7
    have c7b1 : (t113 != 0) = true := bne_iff_ne.mpr c7
    simp only [Option.some.injEq, Prod.mk.injEq] at H
    obtain ⟨rfl, rfl⟩ := H
    go_enter Try.func16, Try.ntmps16
    go_wp2_with (first | ((with_reducible refine gate_callee (f := 35) rfl ?_); refine goesL_ (some 20) rfl rfl Try.func35 (by kernel_rfl) rfl #[.slice A3 l3.length c3, .slice A4 l4.length c4] rfl (by (try simp only [List.map_toArray, List.map_cons, List.map_nil]); first | done | rfl | (simp only [List.length_drop, List.length_take]; rfl)) ?_; (with_reducible refine (payslip_Compare.calls k _ _ l3 _ _ l4 t112 t113 _ ?side1 ?side2 ?side3 ?side4 A6.out).mono ?_); (case side1 => repeat (first | exact HR3.out | (with_reducible refine Kd.C_alloc ?_ _) | (with_reducible refine Kd.C_drewN ?_ _) | (with_reducible refine Kd.C_drew ?_))); (case side2 => exact HC3.out); (case side3 => repeat (first | exact HR4.out | (with_reducible refine Kd.C_alloc ?_ _) | (with_reducible refine Kd.C_drewN ?_ _) | (with_reducible refine Kd.C_drew ?_))); (case side4 => exact HC4.out); rintro e w24 ⟨v114, rfl, ho0, hb⟩; refine ⟨_, rfl, ?_⟩; have n0_ := Aside0.mk (Kd.R_lower ho0 (below_size (by repeat (first | (with_reducible first | exact HB.out | apply below_alloc | apply pw_below_drewN | apply below_drew1) | exact HB.out)))); have n1_ := Aside0.mk (below_step (by repeat (first | (with_reducible first | exact HB.out | apply below_alloc | apply pw_below_drewN | apply below_drew1) | exact HB.out)) hb); clear HB; have HO115 := n0_; have HB := n1_; clear n0_ n1_; (try clear hb); (try clear hb2); (try clear hk); (try clear hi); (try clear ho0)))
    go_ret2
    exact ⟨_, by first | rfl | (simp [errW_none, errW_some] <;> rfl) | (simp [*, errW_none, errW_some] <;> rfl), by first | exact Kd.R_nil _ _ _ _ _ | exact Kd.N_nil _ _ _ _ _ | exact Kd.V_nil _ _ _ _ _ | exact Kd.Q_nil _ _ _ _ _ | exact Kd.S_nil _ _ _ _ _, by repeat (first | (with_reducible first | exact HB.out | apply below_alloc | apply pw_below_drewN | apply below_drew1) | exact HB.out)⟩

/-! ### delta_between: function 37 -/
def delta_between.f (a0 : Int) (a1 : Int) : Option (Bool) := if a0 ≥ 0 then (some (decide (a0 ≤ a1))) else (some false)
set_option maxHeartbeats 8000000 in
set_option maxRecDepth 100000 in
theorem delta_between.calls (a0 : Int) (a1 : Int) (r : Bool) (w : World) (h : delta_between.f a0 a1 = some r) :
    Calls Try.prog 37 #[.int .i64 a0, .int .i64 a1] w fun e w' => e = .returned (.bool r) ∧ Drawn0 w w' := by
  have H : (if a0 ≥ 0 then (some (decide (a0 ≤ a1))) else (some false)) = some r := h
  clear h
  by_cases c3 : a0 ≥ 0
  · rw [if_pos c3] at H
    have c3b0 : decide (0 ≤ a0) = true := decide_eq_true c3
    clear c3
    obtain rfl := Option.some.inj H
    go_enter Try.func37, Try.ntmps37
    go_wp2
    go_ret
    exact ⟨by first | rfl | (simp; done) | (simp [*]; done), by repeat (first | exact Drawn0.refl _ | apply Drawn0.step)⟩
  · rw [if_neg c3] at H
    have c3b0 : decide (0 ≤ a0) = false := decide_eq_false c3
    clear c3
    obtain rfl := Option.some.inj H
    go_enter Try.func37, Try.ntmps37
    go_wp2
    go_ret
    exact ⟨by first | rfl | (simp; done) | (simp [*]; done), by repeat (first | exact Drawn0.refl _ | apply Drawn0.step)⟩

/-! ### rounding_up: function 74 -/
def rounding_up.f (a0 : Bool) (a1 : Int) (a2 : Int) (a3 : Int) : Option (Bool) := if a3 = 2 then (some false) else (if a3 = 3 then (some true) else (if a3 = 0 then (some (!a0)) else (if a3 = 1 then (some a0) else (if a2 = 0 then (if a3 = 4 then (some a0) else (if a3 = 5 then (some (!a0)) else (some ((Int.tmod a1 2) != 0)))) else (some (decide (a2 > 0)))))))
set_option maxHeartbeats 8000000 in
set_option maxRecDepth 100000 in
theorem rounding_up.calls (a0 : Bool) (a1 : Int) (a2 : Int) (a3 : Int) (r : Bool) (w : World) (h : rounding_up.f a0 a1 a2 a3 = some r) :
    Calls Try.prog 74 #[.bool a0, .int .i64 a1, .int .i64 a2, .int .i64 a3] w fun e w' => e = .returned (.bool r) ∧ Drawn0 w w' := by
  have H : (if a3 = 2 then (some false) else (if a3 = 3 then (some true) else (if a3 = 0 then (some (!a0)) else (if a3 = 1 then (some a0) else (if a2 = 0 then (if a3 = 4 then (some a0) else (if a3 = 5 then (some (!a0)) else (some ((Int.tmod a1 2) != 0)))) else (some (decide (a2 > 0)))))))) = some r := h
  clear h
  by_cases c5 : a3 = 2
  · rw [if_pos c5] at H
    have c5b0 : (a3 == 2) = true := beq_iff_eq.mpr c5
    have c5b1 : (a3 != 2) = false := bne_eq_false_iff_eq.mpr c5
    clear c5
    obtain rfl := Option.some.inj H
    go_enter Try.func74, Try.ntmps74
    go_wp2
    go_ret
    exact ⟨by first | rfl | (simp; done) | (simp [*]; done), by repeat (first | exact Drawn0.refl _ | apply Drawn0.step)⟩
  · rw [if_neg c5] at H
    have c5b0 : (a3 == 2) = false := beq_eq_false_iff_ne.mpr c5
    have c5b1 : (a3 != 2) = true := bne_iff_ne.mpr c5
    by_cases c6 : a3 = 3
    · rw [if_pos c6] at H
      have c6b0 : (a3 == 3) = true := beq_iff_eq.mpr c6
      have c6b1 : (a3 != 3) = false := bne_eq_false_iff_eq.mpr c6
      clear c6
      obtain rfl := Option.some.inj H
      go_enter Try.func74, Try.ntmps74
      go_wp2
      go_ret
      exact ⟨by first | rfl | (simp; done) | (simp [*]; done), by repeat (first | exact Drawn0.refl _ | apply Drawn0.step)⟩
    · rw [if_neg c6] at H
      have c6b0 : (a3 == 3) = false := beq_eq_false_iff_ne.mpr c6
      have c6b1 : (a3 != 3) = true := bne_iff_ne.mpr c6
      by_cases c7 : a3 = 0
      · rw [if_pos c7] at H
        have c7b0 : (a3 == 0) = true := beq_iff_eq.mpr c7
        have c7b1 : (a3 != 0) = false := bne_eq_false_iff_eq.mpr c7
        clear c7
        obtain rfl := Option.some.inj H
        go_enter Try.func74, Try.ntmps74
        go_wp2
        go_ret
        exact ⟨by first | rfl | (simp; done) | (simp [*]; done), by repeat (first | exact Drawn0.refl _ | apply Drawn0.step)⟩
      · rw [if_neg c7] at H
        have c7b0 : (a3 == 0) = false := beq_eq_false_iff_ne.mpr c7
        have c7b1 : (a3 != 0) = true := bne_iff_ne.mpr c7
        by_cases c8 : a3 = 1
        · rw [if_pos c8] at H
          have c8b0 : (a3 == 1) = true := beq_iff_eq.mpr c8
          have c8b1 : (a3 != 1) = false := bne_eq_false_iff_eq.mpr c8
          clear c8
          obtain rfl := Option.some.inj H
          go_enter Try.func74, Try.ntmps74
          go_wp2
          go_ret
          exact ⟨by first | rfl | (simp; done) | (simp [*]; done), by repeat (first | exact Drawn0.refl _ | apply Drawn0.step)⟩
        · rw [if_neg c8] at H
          have c8b0 : (a3 == 1) = false := beq_eq_false_iff_ne.mpr c8
          have c8b1 : (a3 != 1) = true := bne_iff_ne.mpr c8
          by_cases c9 : a2 = 0
          · rw [if_pos c9] at H
            have c9b0 : (a2 == 0) = true := beq_iff_eq.mpr c9
            have c9b1 : (a2 != 0) = false := bne_eq_false_iff_eq.mpr c9
            clear c9
            by_cases c10 : a3 = 4
            · rw [if_pos c10] at H
              have c10b0 : (a3 == 4) = true := beq_iff_eq.mpr c10
              have c10b1 : (a3 != 4) = false := bne_eq_false_iff_eq.mpr c10
              clear c10
              obtain rfl := Option.some.inj H
              go_enter Try.func74, Try.ntmps74
              go_wp2
              go_ret
              exact ⟨by first | rfl | (simp; done) | (simp [*]; done), by repeat (first | exact Drawn0.refl _ | apply Drawn0.step)⟩
            · rw [if_neg c10] at H
              have c10b0 : (a3 == 4) = false := beq_eq_false_iff_ne.mpr c10
              have c10b1 : (a3 != 4) = true := bne_iff_ne.mpr c10
              by_cases c11 : a3 = 5
              · rw [if_pos c11] at H
                have c11b0 : (a3 == 5) = true := beq_iff_eq.mpr c11
                have c11b1 : (a3 != 5) = false := bne_eq_false_iff_eq.mpr c11
                clear c11
                obtain rfl := Option.some.inj H
                go_enter Try.func74, Try.ntmps74
                go_wp2
                go_ret
                exact ⟨by first | rfl | (simp; done) | (simp [*]; done), by repeat (first | exact Drawn0.refl _ | apply Drawn0.step)⟩
              · rw [if_neg c11] at H
                have c11b0 : (a3 == 5) = false := beq_eq_false_iff_ne.mpr c11
                have c11b1 : (a3 != 5) = true := bne_iff_ne.mpr c11
                obtain rfl := Option.some.inj H
                go_enter Try.func74, Try.ntmps74
                go_wp2
                go_ret
                exact ⟨by first | rfl | (simp; done) | (simp [*]; done), by repeat (first | exact Drawn0.refl _ | apply Drawn0.step)⟩
          · rw [if_neg c9] at H
            have c9b0 : (a2 == 0) = false := beq_eq_false_iff_ne.mpr c9
            have c9b1 : (a2 != 0) = true := bne_iff_ne.mpr c9
            obtain rfl := Option.some.inj H
            go_enter Try.func74, Try.ntmps74
            go_wp2
            go_ret
            exact ⟨by first | rfl | (simp; done) | (simp [*]; done), by repeat (first | exact Drawn0.refl _ | apply Drawn0.step)⟩

/-! ### rounding_whole: function 63 -/
def rounding_whole.f (a0 : Int) (a1 : Int) (a2 : Int) : Option (Int) := if a1 = 0 then (none) else (if (Int.tmod a0 a1) < 0 then (if (wrap64 ((Int.tmod a0 a1) + a1)) > 0 then ((rounding_up.f (decide (a0 > 0)) (wrap64 ((wrap64 (Int.tdiv a0 a1)) - 1)) (wrap64 ((wrap64 (2 * (wrap64 ((Int.tmod a0 a1) + a1)))) - a1)) a2).bind fun t121 => (if t121 = true then (some (wrap64 ((wrap64 ((wrap64 (Int.tdiv a0 a1)) - 1)) + 1))) else (some (wrap64 ((wrap64 (Int.tdiv a0 a1)) - 1))))) else (some (wrap64 ((wrap64 (Int.tdiv a0 a1)) - 1)))) else (if (Int.tmod a0 a1) > 0 then ((rounding_up.f (decide (a0 > 0)) (wrap64 (Int.tdiv a0 a1)) (wrap64 ((wrap64 (2 * (Int.tmod a0 a1))) - a1)) a2).bind fun t122 => (if t122 = true then (some (wrap64 ((wrap64 (Int.tdiv a0 a1)) + 1))) else (some (wrap64 (Int.tdiv a0 a1))))) else (some (wrap64 (Int.tdiv a0 a1)))))
set_option maxHeartbeats 8000000 in
set_option maxRecDepth 100000 in
theorem rounding_whole.calls (a0 : Int) (a1 : Int) (a2 : Int) (r : Int) (w : World) (h : rounding_whole.f a0 a1 a2 = some r) :
    Calls Try.prog 63 #[.int .i64 a0, .int .i64 a1, .int .i64 a2] w fun e w' => e = .returned (.int .i64 r) ∧ Drawn0 w w' := by
  have H : (if a1 = 0 then (none) else (if (Int.tmod a0 a1) < 0 then (if (wrap64 ((Int.tmod a0 a1) + a1)) > 0 then ((rounding_up.f (decide (a0 > 0)) (wrap64 ((wrap64 (Int.tdiv a0 a1)) - 1)) (wrap64 ((wrap64 (2 * (wrap64 ((Int.tmod a0 a1) + a1)))) - a1)) a2).bind fun t121 => (if t121 = true then (some (wrap64 ((wrap64 ((wrap64 (Int.tdiv a0 a1)) - 1)) + 1))) else (some (wrap64 ((wrap64 (Int.tdiv a0 a1)) - 1))))) else (some (wrap64 ((wrap64 (Int.tdiv a0 a1)) - 1)))) else (if (Int.tmod a0 a1) > 0 then ((rounding_up.f (decide (a0 > 0)) (wrap64 (Int.tdiv a0 a1)) (wrap64 ((wrap64 (2 * (Int.tmod a0 a1))) - a1)) a2).bind fun t122 => (if t122 = true then (some (wrap64 ((wrap64 (Int.tdiv a0 a1)) + 1))) else (some (wrap64 (Int.tdiv a0 a1))))) else (some (wrap64 (Int.tdiv a0 a1)))))) = some r := h
  clear h
  by_cases c4 : a1 = 0
  · rw [if_pos c4] at H
    exact absurd H (by simp)
  · rw [if_neg c4] at H
    have c4b0 : (a1 == 0) = false := beq_eq_false_iff_ne.mpr c4
    have c4b1 : (a1 != 0) = true := bne_iff_ne.mpr c4
    by_cases c5 : (Int.tmod a0 a1) < 0
    · rw [if_pos c5] at H
      have c5b0 : decide ((Int.tmod a0 a1) < 0) = true := decide_eq_true c5
      clear c5
      by_cases c6 : (wrap64 ((Int.tmod a0 a1) + a1)) > 0
      · rw [if_pos c6] at H
        have c6b0 : decide (0 < (wrap64 ((Int.tmod a0 a1) + a1))) = true := decide_eq_true c6
        clear c6
        replace H := Option.bind_eq_some_iff.mp H
        obtain ⟨t121, A70, H⟩ := H
        replace H : (if t121 = true then (some (wrap64 ((wrap64 ((wrap64 (Int.tdiv a0 a1)) - 1)) + 1))) else (some (wrap64 ((wrap64 (Int.tdiv a0 a1)) - 1)))) = some r := H
        have A7 := Aside0.mk A70
        clear A70
        by_cases c8 : t121 = true
        · subst c8
          have H1 : (some (wrap64 ((wrap64 ((wrap64 (Int.tdiv a0 a1)) - 1)) + 1))) = some r := by rw [if_pos rfl] at H; exact H
          clear H
          have H := H1
          clear H1
          obtain rfl := Option.some.inj H
          go_enter Try.func63, Try.ntmps63
          go_wp2_with (first | (go_at_call 74; (with_reducible refine (rounding_up.calls (decide (a0 > 0)) (wrap64 ((wrap64 (Int.tdiv a0 a1)) - 1)) (wrap64 ((wrap64 (2 * (wrap64 ((Int.tmod a0 a1) + a1)))) - a1)) a2 true _ A7.out).mono ?_); rintro e w' ⟨rfl, ⟨nd, rfl⟩⟩; (try first | exact ⟨rfl, _, World.drewN_drewN _ _ _⟩ | exact ⟨rfl, _, Eq.trans (World.drewN_drewN _ _ _) (congrArg (World.drewN _) (Nat.add_assoc _ _ _))⟩)))
          repeat (go_quiet (first | (go_at_call 74; (with_reducible refine (rounding_up.calls (decide (a0 > 0)) (wrap64 ((wrap64 (Int.tdiv a0 a1)) - 1)) (wrap64 ((wrap64 (2 * (wrap64 ((Int.tmod a0 a1) + a1)))) - a1)) a2 true _ A7.out).mono ?_); rintro e w' ⟨rfl, ⟨nd, rfl⟩⟩; (try first | exact ⟨rfl, _, World.drewN_drewN _ _ _⟩ | exact ⟨rfl, _, Eq.trans (World.drewN_drewN _ _ _) (congrArg (World.drewN _) (Nat.add_assoc _ _ _))⟩))); try go_wp2_with (first | (go_at_call 74; (with_reducible refine (rounding_up.calls (decide (a0 > 0)) (wrap64 ((wrap64 (Int.tdiv a0 a1)) - 1)) (wrap64 ((wrap64 (2 * (wrap64 ((Int.tmod a0 a1) + a1)))) - a1)) a2 true _ A7.out).mono ?_); rintro e w' ⟨rfl, ⟨nd, rfl⟩⟩; (try first | exact ⟨rfl, _, World.drewN_drewN _ _ _⟩ | exact ⟨rfl, _, Eq.trans (World.drewN_drewN _ _ _) (congrArg (World.drewN _) (Nat.add_assoc _ _ _))⟩))))
          go_ret
          exact ⟨by first | rfl | (simp; done) | (simp [*]; done), by repeat (first | exact Drawn0.refl _ | apply Drawn0.step)⟩
        · replace c8 := Bool.eq_false_iff.mpr c8
          subst c8
          have H1 : (some (wrap64 ((wrap64 (Int.tdiv a0 a1)) - 1))) = some r := by rw [if_neg (show ¬ (false = true) by decide)] at H; exact H
          clear H
          have H := H1
          clear H1
          obtain rfl := Option.some.inj H
          go_enter Try.func63, Try.ntmps63
          go_wp2_with (first | (go_at_call 74; (with_reducible refine (rounding_up.calls (decide (a0 > 0)) (wrap64 ((wrap64 (Int.tdiv a0 a1)) - 1)) (wrap64 ((wrap64 (2 * (wrap64 ((Int.tmod a0 a1) + a1)))) - a1)) a2 false _ A7.out).mono ?_); rintro e w' ⟨rfl, ⟨nd, rfl⟩⟩; (try first | exact ⟨rfl, _, World.drewN_drewN _ _ _⟩ | exact ⟨rfl, _, Eq.trans (World.drewN_drewN _ _ _) (congrArg (World.drewN _) (Nat.add_assoc _ _ _))⟩)))
          repeat (go_quiet (first | (go_at_call 74; (with_reducible refine (rounding_up.calls (decide (a0 > 0)) (wrap64 ((wrap64 (Int.tdiv a0 a1)) - 1)) (wrap64 ((wrap64 (2 * (wrap64 ((Int.tmod a0 a1) + a1)))) - a1)) a2 false _ A7.out).mono ?_); rintro e w' ⟨rfl, ⟨nd, rfl⟩⟩; (try first | exact ⟨rfl, _, World.drewN_drewN _ _ _⟩ | exact ⟨rfl, _, Eq.trans (World.drewN_drewN _ _ _) (congrArg (World.drewN _) (Nat.add_assoc _ _ _))⟩))); try go_wp2_with (first | (go_at_call 74; (with_reducible refine (rounding_up.calls (decide (a0 > 0)) (wrap64 ((wrap64 (Int.tdiv a0 a1)) - 1)) (wrap64 ((wrap64 (2 * (wrap64 ((Int.tmod a0 a1) + a1)))) - a1)) a2 false _ A7.out).mono ?_); rintro e w' ⟨rfl, ⟨nd, rfl⟩⟩; (try first | exact ⟨rfl, _, World.drewN_drewN _ _ _⟩ | exact ⟨rfl, _, Eq.trans (World.drewN_drewN _ _ _) (congrArg (World.drewN _) (Nat.add_assoc _ _ _))⟩))))
          go_ret
          exact ⟨by first | rfl | (simp; done) | (simp [*]; done), by repeat (first | exact Drawn0.refl _ | apply Drawn0.step)⟩
      · rw [if_neg c6] at H
        have c6b0 : decide (0 < (wrap64 ((Int.tmod a0 a1) + a1))) = false := decide_eq_false c6
        clear c6
        obtain rfl := Option.some.inj H
        go_enter Try.func63, Try.ntmps63
        go_wp2
        repeat (go_quiet (fail); try go_wp2)
        go_ret
        exact ⟨by first | rfl | (simp; done) | (simp [*]; done), by repeat (first | exact Drawn0.refl _ | apply Drawn0.step)⟩
    · rw [if_neg c5] at H
      have c5b0 : decide ((Int.tmod a0 a1) < 0) = false := decide_eq_false c5
      clear c5
      by_cases c9 : (Int.tmod a0 a1) > 0
      · rw [if_pos c9] at H
        have c9b0 : decide (0 < (Int.tmod a0 a1)) = true := decide_eq_true c9
        clear c9
        replace H := Option.bind_eq_some_iff.mp H
        obtain ⟨t122, A100, H⟩ := H
        replace H : (if t122 = true then (some (wrap64 ((wrap64 (Int.tdiv a0 a1)) + 1))) else (some (wrap64 (Int.tdiv a0 a1)))) = some r := H
        have A10 := Aside0.mk A100
        clear A100
        by_cases c11 : t122 = true
        · subst c11
          have H1 : (some (wrap64 ((wrap64 (Int.tdiv a0 a1)) + 1))) = some r := by rw [if_pos rfl] at H; exact H
          clear H
          have H := H1
          clear H1
          obtain rfl := Option.some.inj H
          go_enter Try.func63, Try.ntmps63
          go_wp2_with (first | (go_at_call 74; (with_reducible refine (rounding_up.calls (decide (a0 > 0)) (wrap64 (Int.tdiv a0 a1)) (wrap64 ((wrap64 (2 * (Int.tmod a0 a1))) - a1)) a2 true _ A10.out).mono ?_); rintro e w' ⟨rfl, ⟨nd, rfl⟩⟩; (try first | exact ⟨rfl, _, World.drewN_drewN _ _ _⟩ | exact ⟨rfl, _, Eq.trans (World.drewN_drewN _ _ _) (congrArg (World.drewN _) (Nat.add_assoc _ _ _))⟩)))
          repeat (go_quiet (first | (go_at_call 74; (with_reducible refine (rounding_up.calls (decide (a0 > 0)) (wrap64 (Int.tdiv a0 a1)) (wrap64 ((wrap64 (2 * (Int.tmod a0 a1))) - a1)) a2 true _ A10.out).mono ?_); rintro e w' ⟨rfl, ⟨nd, rfl⟩⟩; (try first | exact ⟨rfl, _, World.drewN_drewN _ _ _⟩ | exact ⟨rfl, _, Eq.trans (World.drewN_drewN _ _ _) (congrArg (World.drewN _) (Nat.add_assoc _ _ _))⟩))); try go_wp2_with (first | (go_at_call 74; (with_reducible refine (rounding_up.calls (decide (a0 > 0)) (wrap64 (Int.tdiv a0 a1)) (wrap64 ((wrap64 (2 * (Int.tmod a0 a1))) - a1)) a2 true _ A10.out).mono ?_); rintro e w' ⟨rfl, ⟨nd, rfl⟩⟩; (try first | exact ⟨rfl, _, World.drewN_drewN _ _ _⟩ | exact ⟨rfl, _, Eq.trans (World.drewN_drewN _ _ _) (congrArg (World.drewN _) (Nat.add_assoc _ _ _))⟩))))
          go_ret
          exact ⟨by first | rfl | (simp; done) | (simp [*]; done), by repeat (first | exact Drawn0.refl _ | apply Drawn0.step)⟩
        · replace c11 := Bool.eq_false_iff.mpr c11
          subst c11
          have H1 : (some (wrap64 (Int.tdiv a0 a1))) = some r := by rw [if_neg (show ¬ (false = true) by decide)] at H; exact H
          clear H
          have H := H1
          clear H1
          obtain rfl := Option.some.inj H
          go_enter Try.func63, Try.ntmps63
          go_wp2_with (first | (go_at_call 74; (with_reducible refine (rounding_up.calls (decide (a0 > 0)) (wrap64 (Int.tdiv a0 a1)) (wrap64 ((wrap64 (2 * (Int.tmod a0 a1))) - a1)) a2 false _ A10.out).mono ?_); rintro e w' ⟨rfl, ⟨nd, rfl⟩⟩; (try first | exact ⟨rfl, _, World.drewN_drewN _ _ _⟩ | exact ⟨rfl, _, Eq.trans (World.drewN_drewN _ _ _) (congrArg (World.drewN _) (Nat.add_assoc _ _ _))⟩)))
          repeat (go_quiet (first | (go_at_call 74; (with_reducible refine (rounding_up.calls (decide (a0 > 0)) (wrap64 (Int.tdiv a0 a1)) (wrap64 ((wrap64 (2 * (Int.tmod a0 a1))) - a1)) a2 false _ A10.out).mono ?_); rintro e w' ⟨rfl, ⟨nd, rfl⟩⟩; (try first | exact ⟨rfl, _, World.drewN_drewN _ _ _⟩ | exact ⟨rfl, _, Eq.trans (World.drewN_drewN _ _ _) (congrArg (World.drewN _) (Nat.add_assoc _ _ _))⟩))); try go_wp2_with (first | (go_at_call 74; (with_reducible refine (rounding_up.calls (decide (a0 > 0)) (wrap64 (Int.tdiv a0 a1)) (wrap64 ((wrap64 (2 * (Int.tmod a0 a1))) - a1)) a2 false _ A10.out).mono ?_); rintro e w' ⟨rfl, ⟨nd, rfl⟩⟩; (try first | exact ⟨rfl, _, World.drewN_drewN _ _ _⟩ | exact ⟨rfl, _, Eq.trans (World.drewN_drewN _ _ _) (congrArg (World.drewN _) (Nat.add_assoc _ _ _))⟩))))
          go_ret
          exact ⟨by first | rfl | (simp; done) | (simp [*]; done), by repeat (first | exact Drawn0.refl _ | apply Drawn0.step)⟩
      · rw [if_neg c9] at H
        have c9b0 : decide (0 < (Int.tmod a0 a1)) = false := decide_eq_false c9
        clear c9
        obtain rfl := Option.some.inj H
        go_enter Try.func63, Try.ntmps63
        go_wp2
        repeat (go_quiet (fail); try go_wp2)
        go_ret
        exact ⟨by first | rfl | (simp; done) | (simp [*]; done), by repeat (first | exact Drawn0.refl _ | apply Drawn0.step)⟩

/-! ### rounding_Part: function 54 -/
def rounding_Part.j0 : Nat → Int → Int → Int → Int → Int → Bool → Option (Int × Int)
  | 0, _, _, _, _, _, _ => none
  | k + 1, x0, x1, x2, x3, x4, x50 => if x50 = true then (some (0, 2)) else ((rounding_whole.f (wrap64 (x0 * x1)) (wrap64 (x2 * x3)) x4).bind fun t123 => (if (wrap64 (t123 * x3)) < (-1000000000000) then (some (0, 4)) else (if (wrap64 (t123 * x3)) > 1000000000000 then (some (0, 4)) else (some (wrap64 (t123 * x3), 0)))))
def rounding_Part.f (k : Nat) (a0 : Int) (a1 : Int) (a2 : Int) (a3 : Int) (a4 : Int) : Option (Int × Int) := if a0 < (-1000000000000) then (rounding_Part.j0 k a0 a1 a2 a3 a4 true) else (if a0 > 1000000000000 then (rounding_Part.j0 k a0 a1 a2 a3 a4 true) else (if a1 < 0 then (rounding_Part.j0 k a0 a1 a2 a3 a4 true) else (if a1 > 1000000 then (rounding_Part.j0 k a0 a1 a2 a3 a4 true) else (if a2 < 1 then (rounding_Part.j0 k a0 a1 a2 a3 a4 true) else (if a2 > 1000000 then (rounding_Part.j0 k a0 a1 a2 a3 a4 true) else (if a3 < 1 then (rounding_Part.j0 k a0 a1 a2 a3 a4 true) else (if a3 > 1000000 then (rounding_Part.j0 k a0 a1 a2 a3 a4 true) else (if a4 < 0 then (rounding_Part.j0 k a0 a1 a2 a3 a4 true) else (rounding_Part.j0 k a0 a1 a2 a3 a4 (decide (a4 > 6)))))))))))
theorem rounding_Part.mono_l : ∀ k, (∀ y0 y1 y2 y3 y4 y5, LeO (rounding_Part.j0 k y0 y1 y2 y3 y4 y5) (rounding_Part.j0 (k + 1) y0 y1 y2 y3 y4 y5))
  | 0 => fun _ _ _ _ _ _ r h => by simp [rounding_Part.j0] at h
  | k + 1 => by
    have ih0 := rounding_Part.mono_l k
    · intro y0 y1 y2 y3 y4 y5
      unfold rounding_Part.j0
      repeat' first
      | (with_reducible exact ih0 _ _ _ _ _ _)
      | (with_reducible exact LeO.refl _)
      | (with_reducible exact LeO.none _)
      | (with_reducible refine LeO.ite ?_ ?_)
      | (with_reducible refine LeO.bind ?_ (fun _ => ?_))
      | exact ih0 _ _ _ _ _ _
      | exact LeO.none _
      | refine LeO.ite ?_ ?_
      | refine LeO.bind ?_ (fun _ => ?_)
theorem rounding_Part.mono : ∀ a0 a1 a2 a3 a4 k, LeO (rounding_Part.f k a0 a1 a2 a3 a4) (rounding_Part.f (k + 1) a0 a1 a2 a3 a4) := by
  intro a0 a1 a2 a3 a4 k
  have ih0 := rounding_Part.mono_l k
  unfold rounding_Part.f
  repeat' first
      | (with_reducible exact ih0 _ _ _ _ _ _)
      | (with_reducible exact LeO.refl _)
      | (with_reducible exact LeO.none _)
      | (with_reducible refine LeO.ite ?_ ?_)
      | (with_reducible refine LeO.bind ?_ (fun _ => ?_))
      | exact ih0 _ _ _ _ _ _
      | exact LeO.none _
      | refine LeO.ite ?_ ?_
      | refine LeO.bind ?_ (fun _ => ?_)
set_option maxHeartbeats 8000000 in
set_option maxRecDepth 100000 in
theorem rounding_Part.calls (k : Nat) (a0 : Int) (a1 : Int) (a2 : Int) (a3 : Int) (a4 : Int) (r1 : Int) (r2 : Int) (w : World) (h : rounding_Part.f k a0 a1 a2 a3 a4 = some (r1, r2)) :
    Calls Try.prog 54 #[.int .i64 a0, .int .i64 a1, .int .i64 a2, .int .i64 a3, .int .i64 a4] w fun e w' => e = .returned (.tuple #[.int .i64 r1, .int .i64 r2]) ∧ Drawn0 w w' := by
  have H : (if a0 < (-1000000000000) then (rounding_Part.j0 k a0 a1 a2 a3 a4 true) else (if a0 > 1000000000000 then (rounding_Part.j0 k a0 a1 a2 a3 a4 true) else (if a1 < 0 then (rounding_Part.j0 k a0 a1 a2 a3 a4 true) else (if a1 > 1000000 then (rounding_Part.j0 k a0 a1 a2 a3 a4 true) else (if a2 < 1 then (rounding_Part.j0 k a0 a1 a2 a3 a4 true) else (if a2 > 1000000 then (rounding_Part.j0 k a0 a1 a2 a3 a4 true) else (if a3 < 1 then (rounding_Part.j0 k a0 a1 a2 a3 a4 true) else (if a3 > 1000000 then (rounding_Part.j0 k a0 a1 a2 a3 a4 true) else (if a4 < 0 then (rounding_Part.j0 k a0 a1 a2 a3 a4 true) else (rounding_Part.j0 k a0 a1 a2 a3 a4 (decide (a4 > 6)))))))))))) = some (r1, r2) := h
  clear h
  have HC6 := Aside0.mk H
  clear H
  go_enter Try.func54, Try.ntmps54
  go_upto_region 1 with (fail)
  go_cut [50] (fun v50 wc => ∃ (kq : Nat) (x50_5 : Bool), v50 = .bool x50_5 ∧ Aside0 (rounding_Part.j0 kq a0 a1 a2 a3 a4 x50_5 = some (r1, r2)) ∧ Aside0 (kq ≤ k) ∧ Drawn0 w wc)
  case first =>
    have H := HC6.out
    clear HC6
    by_cases c7 : a0 < (-1000000000000)
    · rw [if_pos c7] at H
      have c7b0 : decide (a0 < (-1000000000000)) = true := decide_eq_true c7
      clear c7
      (first | rw [c7b0] | (simp only [i64_w, i32_w]; rw [c7b0]) | skip)
      have H' := Aside0.mk H
      clear H
      go_wp2
      go_meet
      case rel => exact ⟨_, (true), (by first | rfl | (simp; done) | (simp [*]; done)), H', ⟨by first | omega | exact Nat.le_refl _⟩, by repeat (first | exact Drawn0.refl _ | apply Drawn0.step)⟩
    · rw [if_neg c7] at H
      have c7b0 : decide (a0 < (-1000000000000)) = false := decide_eq_false c7
      clear c7
      (first | rw [c7b0] | (simp only [i64_w, i32_w]; rw [c7b0]) | skip)
      by_cases c8 : a0 > 1000000000000
      · rw [if_pos c8] at H
        have c8b0 : decide (1000000000000 < a0) = true := decide_eq_true c8
        clear c8
        have H' := Aside0.mk H
        clear H
        go_wp2
        go_meet
        case rel => exact ⟨_, (true), (by first | rfl | (simp; done) | (simp [*]; done)), H', ⟨by first | omega | exact Nat.le_refl _⟩, by repeat (first | exact Drawn0.refl _ | apply Drawn0.step)⟩
      · rw [if_neg c8] at H
        have c8b0 : decide (1000000000000 < a0) = false := decide_eq_false c8
        clear c8
        by_cases c9 : a1 < 0
        · rw [if_pos c9] at H
          have c9b0 : decide (a1 < 0) = true := decide_eq_true c9
          clear c9
          have H' := Aside0.mk H
          clear H
          go_wp2
          go_meet
          case rel => exact ⟨_, (true), (by first | rfl | (simp; done) | (simp [*]; done)), H', ⟨by first | omega | exact Nat.le_refl _⟩, by repeat (first | exact Drawn0.refl _ | apply Drawn0.step)⟩
        · rw [if_neg c9] at H
          have c9b0 : decide (a1 < 0) = false := decide_eq_false c9
          clear c9
          by_cases c10 : a1 > 1000000
          · rw [if_pos c10] at H
            have c10b0 : decide (1000000 < a1) = true := decide_eq_true c10
            clear c10
            have H' := Aside0.mk H
            clear H
            go_wp2
            go_meet
            case rel => exact ⟨_, (true), (by first | rfl | (simp; done) | (simp [*]; done)), H', ⟨by first | omega | exact Nat.le_refl _⟩, by repeat (first | exact Drawn0.refl _ | apply Drawn0.step)⟩
          · rw [if_neg c10] at H
            have c10b0 : decide (1000000 < a1) = false := decide_eq_false c10
            clear c10
            by_cases c11 : a2 < 1
            · rw [if_pos c11] at H
              have c11b0 : decide (a2 < 1) = true := decide_eq_true c11
              clear c11
              have H' := Aside0.mk H
              clear H
              go_wp2
              go_meet
              case rel => exact ⟨_, (true), (by first | rfl | (simp; done) | (simp [*]; done)), H', ⟨by first | omega | exact Nat.le_refl _⟩, by repeat (first | exact Drawn0.refl _ | apply Drawn0.step)⟩
            · rw [if_neg c11] at H
              have c11b0 : decide (a2 < 1) = false := decide_eq_false c11
              clear c11
              by_cases c12 : a2 > 1000000
              · rw [if_pos c12] at H
                have c12b0 : decide (1000000 < a2) = true := decide_eq_true c12
                clear c12
                have H' := Aside0.mk H
                clear H
                go_wp2
                go_meet
                case rel => exact ⟨_, (true), (by first | rfl | (simp; done) | (simp [*]; done)), H', ⟨by first | omega | exact Nat.le_refl _⟩, by repeat (first | exact Drawn0.refl _ | apply Drawn0.step)⟩
              · rw [if_neg c12] at H
                have c12b0 : decide (1000000 < a2) = false := decide_eq_false c12
                clear c12
                by_cases c13 : a3 < 1
                · rw [if_pos c13] at H
                  have c13b0 : decide (a3 < 1) = true := decide_eq_true c13
                  clear c13
                  have H' := Aside0.mk H
                  clear H
                  go_wp2
                  go_meet
                  case rel => exact ⟨_, (true), (by first | rfl | (simp; done) | (simp [*]; done)), H', ⟨by first | omega | exact Nat.le_refl _⟩, by repeat (first | exact Drawn0.refl _ | apply Drawn0.step)⟩
                · rw [if_neg c13] at H
                  have c13b0 : decide (a3 < 1) = false := decide_eq_false c13
                  clear c13
                  by_cases c14 : a3 > 1000000
                  · rw [if_pos c14] at H
                    have c14b0 : decide (1000000 < a3) = true := decide_eq_true c14
                    clear c14
                    have H' := Aside0.mk H
                    clear H
                    go_wp2
                    go_meet
                    case rel => exact ⟨_, (true), (by first | rfl | (simp; done) | (simp [*]; done)), H', ⟨by first | omega | exact Nat.le_refl _⟩, by repeat (first | exact Drawn0.refl _ | apply Drawn0.step)⟩
                  · rw [if_neg c14] at H
                    have c14b0 : decide (1000000 < a3) = false := decide_eq_false c14
                    clear c14
                    by_cases c15 : a4 < 0
                    · rw [if_pos c15] at H
                      have c15b0 : decide (a4 < 0) = true := decide_eq_true c15
                      clear c15
                      have H' := Aside0.mk H
                      clear H
                      go_wp2
                      go_meet
                      case rel => exact ⟨_, (true), (by first | rfl | (simp; done) | (simp [*]; done)), H', ⟨by first | omega | exact Nat.le_refl _⟩, by repeat (first | exact Drawn0.refl _ | apply Drawn0.step)⟩
                    · rw [if_neg c15] at H
                      have c15b0 : decide (a4 < 0) = false := decide_eq_false c15
                      clear c15
                      have H' := Aside0.mk H
                      clear H
                      go_wp2
                      go_meet
                      case rel => exact ⟨_, (decide (a4 > 6)), (by first | rfl | (simp; done) | (simp [*]; done)), H', ⟨by first | omega | exact Nat.le_refl _⟩, by repeat (first | exact Drawn0.refl _ | apply Drawn0.step)⟩
  case rest =>
    clear HC6
    try clear c1
    try clear p2
    try clear c5
    try clear c7
    try clear c7b0
    try clear c8
    try clear c8b0
    try clear c9
    try clear c9b0
    try clear c10
    try clear c10b0
    try clear c11
    try clear c11b0
    try clear c12
    try clear c12b0
    try clear c13
    try clear c13b0
    try clear c14
    try clear c14b0
    try clear c15
    try clear c15b0
    obtain ⟨kq, x50_5, rfl, HA, HJ5, ⟨mc5, rfl⟩⟩ := hcut
    cases kq with
    | zero => exact absurd HA.out (by simp [rounding_Part.j0])
    | succ kj5 =>
      have H := HA.out
      clear HA
      simp only [rounding_Part.j0] at H
      by_cases c16 : x50_5 = true
      · subst c16
        have H1 : (some (0, 2)) = some (r1, r2) := by rw [if_pos rfl] at H; exact H
        clear H
        have H := H1
        clear H1
        simp only [Option.some.injEq, Prod.mk.injEq] at H
        obtain ⟨rfl, rfl⟩ := H
        go_wp2
        go_ret2
        exact ⟨by first | rfl | (simp; done) | (simp [*]; done), by repeat (first | exact Drawn0.refl _ | apply Drawn0.step)⟩
      · replace c16 := Bool.eq_false_iff.mpr c16
        subst c16
        have H1 : ((rounding_whole.f (wrap64 (a0 * a1)) (wrap64 (a2 * a3)) a4).bind fun t123 => (if (wrap64 (t123 * a3)) < (-1000000000000) then (some (0, 4)) else (if (wrap64 (t123 * a3)) > 1000000000000 then (some (0, 4)) else (some (wrap64 (t123 * a3), 0))))) = some (r1, r2) := by rw [if_neg (show ¬ (false = true) by decide)] at H; exact H
        clear H
        have H := H1
        clear H1
        replace H := Option.bind_eq_some_iff.mp H
        obtain ⟨t123, A170, H⟩ := H
        replace H : (if (wrap64 (t123 * a3)) < (-1000000000000) then (some (0, 4)) else (if (wrap64 (t123 * a3)) > 1000000000000 then (some (0, 4)) else (some (wrap64 (t123 * a3), 0)))) = some (r1, r2) := H
        have A17 := Aside0.mk A170
        clear A170
        by_cases c18 : (wrap64 (t123 * a3)) < (-1000000000000)
        · rw [if_pos c18] at H
          have c18b0 : decide ((wrap64 (t123 * a3)) < (-1000000000000)) = true := decide_eq_true c18
          clear c18
          simp only [Option.some.injEq, Prod.mk.injEq] at H
          obtain ⟨rfl, rfl⟩ := H
          go_wp2_with (first | ((with_reducible refine gate_callee (f := 63) rfl ?_); refine goesL_ (some 58) rfl rfl Try.func63 (by kernel_rfl) rfl #[.int .i64 (wrap64 (a0 * a1)), .int .i64 (wrap64 (a2 * a3)), .int .i64 a4] rfl (by (try simp only [List.map_toArray, List.map_cons, List.map_nil]); first | done | rfl | (simp only [List.length_drop, List.length_take]; rfl)) ?_; (with_reducible refine (rounding_whole.calls (wrap64 (a0 * a1)) (wrap64 (a2 * a3)) a4 t123 _ A17.out).mono ?_); rintro e w' ⟨rfl, ⟨nd, rfl⟩⟩; refine ⟨_, rfl, ?_⟩))
          go_ret2
          exact ⟨by first | rfl | (simp; done) | (simp [*]; done), by repeat (first | exact Drawn0.refl _ | apply Drawn0.step)⟩
        · rw [if_neg c18] at H
          have c18b0 : decide ((wrap64 (t123 * a3)) < (-1000000000000)) = false := decide_eq_false c18
          clear c18
          by_cases c19 : (wrap64 (t123 * a3)) > 1000000000000
          · rw [if_pos c19] at H
            have c19b0 : decide (1000000000000 < (wrap64 (t123 * a3))) = true := decide_eq_true c19
            clear c19
            simp only [Option.some.injEq, Prod.mk.injEq] at H
            obtain ⟨rfl, rfl⟩ := H
            go_wp2_with (first | ((with_reducible refine gate_callee (f := 63) rfl ?_); refine goesL_ (some 58) rfl rfl Try.func63 (by kernel_rfl) rfl #[.int .i64 (wrap64 (a0 * a1)), .int .i64 (wrap64 (a2 * a3)), .int .i64 a4] rfl (by (try simp only [List.map_toArray, List.map_cons, List.map_nil]); first | done | rfl | (simp only [List.length_drop, List.length_take]; rfl)) ?_; (with_reducible refine (rounding_whole.calls (wrap64 (a0 * a1)) (wrap64 (a2 * a3)) a4 t123 _ A17.out).mono ?_); rintro e w' ⟨rfl, ⟨nd, rfl⟩⟩; refine ⟨_, rfl, ?_⟩))
            go_ret2
            exact ⟨by first | rfl | (simp; done) | (simp [*]; done), by repeat (first | exact Drawn0.refl _ | apply Drawn0.step)⟩
          · rw [if_neg c19] at H
            have c19b0 : decide (1000000000000 < (wrap64 (t123 * a3))) = false := decide_eq_false c19
            clear c19
            simp only [Option.some.injEq, Prod.mk.injEq] at H
            obtain ⟨rfl, rfl⟩ := H
            go_wp2_with (first | ((with_reducible refine gate_callee (f := 63) rfl ?_); refine goesL_ (some 58) rfl rfl Try.func63 (by kernel_rfl) rfl #[.int .i64 (wrap64 (a0 * a1)), .int .i64 (wrap64 (a2 * a3)), .int .i64 a4] rfl (by (try simp only [List.map_toArray, List.map_cons, List.map_nil]); first | done | rfl | (simp only [List.length_drop, List.length_take]; rfl)) ?_; (with_reducible refine (rounding_whole.calls (wrap64 (a0 * a1)) (wrap64 (a2 * a3)) a4 t123 _ A17.out).mono ?_); rintro e w' ⟨rfl, ⟨nd, rfl⟩⟩; refine ⟨_, rfl, ?_⟩))
            go_ret2
            exact ⟨by first | rfl | (simp; done) | (simp [*]; done), by repeat (first | exact Drawn0.refl _ | apply Drawn0.step)⟩

end Go.Proofs.Ytdlljjglmcpniaa.Q
