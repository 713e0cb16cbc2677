-- Printed by wip/xprint.py over the translation, with contracts proved by hand among them. Lean checks it.
import Derived.Test.YtelmnkmpkljboaaQx0
import Derived.Test.YtelmnkmpkljboaaQx1
import Derived.Test.YtelmnkmpkljboaaQx4
import Derived.Test.YtelmnkmpkljboaaQx6
namespace Go.Proofs.Ytelmnkmpkljboaa.Q
open Go.RowKit Go.Proofs.YtelmnkmpkljboaaW.PrintWords Go.Proofs.YtelmnkmpkljboaaW.PrintLast Go.Proofs.YtelmnkmpkljboaaW.PrintMore
attribute [local go_sem] max2_int min2_int max_two min_two max_three min_three max_four min_four   -- for this text's walks alone
set_option linter.unusedVariables false
set_option linter.unusedSimpArgs false

attribute [local go_sem high] eqA25
/-! ### payrollref32_Same: function 29 -/
def payrollref32_Same.l0 : Nat → List (S25) → List (S25) → Int → Option (Bool)
  | 0, _, _, _ => none
  | k + 1, x0, x1, x5 => if x5 < (x0.length : Int) then (if 0 ≤ x5 then (if x5 < (x1.length : Int) then (if (!(((rd_T25 x0 x5).f0) == ((rd_T25 x1 x5).f0)) || (!((((rd_T25 x0 x5).f1).toList) == (((rd_T25 x1 x5).f1).toList)) || (!(((rd_T25 x0 x5).f2) == ((rd_T25 x1 x5).f2))))) = true then (some false) else (payrollref32_Same.l0 k x0 x1 (wrap64 (x5 + 1)))) else (none)) else (none)) else (some true)
def payrollref32_Same.f (k : Nat) (l0 : List (S25)) (l1 : List (S25)) : Option (Bool) := if (l0.length : Int) = (l1.length : Int) then (payrollref32_Same.l0 k l0 l1 0) else (some false)
theorem payrollref32_Same.mono_l : ∀ k, (∀ y0 y1 y2, LeO (payrollref32_Same.l0 k y0 y1 y2) (payrollref32_Same.l0 (k + 1) y0 y1 y2))
  | 0 => fun _ _ _ r h => by simp [payrollref32_Same.l0] at h
  | k + 1 => by
    have ih0 := payrollref32_Same.mono_l k
    · intro y0 y1 y2
      unfold payrollref32_Same.l0
      repeat' first
      | (with_reducible exact ih0 _ _ _)
      | (with_reducible exact LeO.refl _)
      | (with_reducible exact LeO.none _)
      | (with_reducible refine LeO.ite ?_ ?_)
      | (with_reducible refine LeO.bind ?_ (fun _ => ?_))
      | exact ih0 _ _ _
      | exact LeO.none _
      | refine LeO.ite ?_ ?_
      | refine LeO.bind ?_ (fun _ => ?_)
theorem payrollref32_Same.mono : ∀ a0 a1 k, LeO (payrollref32_Same.f k a0 a1) (payrollref32_Same.f (k + 1) a0 a1) := by
  intro a0 a1 k
  have ih0 := payrollref32_Same.mono_l k
  unfold payrollref32_Same.f
  repeat' first
      | (with_reducible exact ih0 _ _ _)
      | (with_reducible exact LeO.refl _)
      | (with_reducible exact LeO.none _)
      | (with_reducible refine LeO.ite ?_ ?_)
      | (with_reducible refine LeO.bind ?_ (fun _ => ?_))
      | exact ih0 _ _ _
      | exact LeO.none _
      | refine LeO.ite ?_ ?_
      | refine LeO.bind ?_ (fun _ => ?_)
set_option maxHeartbeats 8000000 in
set_option maxRecDepth 100000 in
theorem payrollref32_Same.calls (k : Nat) (A0 : Option Addr) (c0 : Nat) (l0 : List (S25)) (A1 : Option Addr) (c1 : Nat) (l1 : List (S25)) (r : Bool) (w : World) (hr0 : Kd.C k25 w A0 l0.length l0) (hc0 : l0.length ≤ c0) (hr1 : Kd.C k25 w A1 l1.length l1) (hc1 : l1.length ≤ c1) (h : payrollref32_Same.f k l0 l1 = some r) :
    Calls Try.prog 29 #[.slice A0 l0.length c0, .slice A1 l1.length c1] w fun e w' => e = .returned (.bool r) ∧ Drawn0 w w' := by
  have hu25 := Try.underlying25
  have HR0 := Aside0.mk hr0
  have HC0 := Aside0.mk hc0
  clear hr0 hc0
  have HR1 := Aside0.mk hr1
  have HC1 := Aside0.mk hc1
  clear hr1 hc1
  have H : (if (l0.length : Int) = (l1.length : Int) then (payrollref32_Same.l0 k l0 l1 0) else (some false)) = some r := h
  clear h
  by_cases c3 : (l0.length : Int) = (l1.length : Int)
  · rw [if_pos c3] at H
    have c3b0 : ((l0.length : Int) == (l1.length : Int)) = true := beq_iff_eq.mpr c3
    have c3b1 : ((l0.length : Int) != (l1.length : Int)) = false := bne_eq_false_iff_eq.mpr c3
    have c3b2 : (l0.length == l1.length) = true := by first | simpa using c3 | (simp at c3 ⊢; omega)
    clear c3
    have H' := Aside0.mk H
    clear H
    go_enter Try.func29, Try.ntmps29
    go_wp2
    repeat (go_quiet (fail); try go_wp2)
    go_loopg [5] k (fun kq v5 w' => ∃ (x5_1 : Int), v5 = .int .i64 x5_1 ∧ Aside0 (payrollref32_Same.l0 kq l0 l1 x5_1 = some r) ∧ Aside0 (kq ≤ k) ∧ Drawn0 w w')
    case atStart => exact ⟨(0), (by first | rfl | (simp; done) | (simp [*]; done)), H', ⟨Nat.le_refl _⟩, by repeat (first | exact Drawn0.refl _ | apply Drawn0.step)⟩
    case round =>
      clear H'
      try clear c1
      try clear c2
      try clear p2
      try clear c3
      try clear c3b0
      try clear c3b1
      try clear c3b2
      obtain ⟨x5_1, rfl, HA, HK1, ⟨m1, rfl⟩⟩ := hrel
      cases gk with
      | zero => exact absurd HA.out (by simp [payrollref32_Same.l0])
      | succ k1 =>
        have H := HA.out
        clear HA
        simp only [payrollref32_Same.l0] at H
        by_cases c4 : x5_1 < (l0.length : Int)
        · rw [if_pos c4] at H
          have c4b0 : decide (x5_1 < (l0.length : Int)) = true := decide_eq_true c4
          clear c4
          by_cases c5 : 0 ≤ x5_1
          · rw [if_pos c5] at H
            have c5b0 : decide (0 ≤ x5_1) = true := decide_eq_true c5
            clear c5
            by_cases c6 : x5_1 < (l1.length : Int)
            · rw [if_pos c6] at H
              have c6b0 : decide (x5_1 < (l1.length : Int)) = true := decide_eq_true c6
              clear c6
              by_cases c7 : (!(((rd_T25 l0 x5_1).f0) == ((rd_T25 l1 x5_1).f0)) || (!((((rd_T25 l0 x5_1).f1).toList) == (((rd_T25 l1 x5_1).f1).toList)) || (!(((rd_T25 l0 x5_1).f2) == ((rd_T25 l1 x5_1).f2))))) = true
              · rw [if_pos c7] at H
                have c7b0 : (!(((rd_T25 l0 x5_1).f0) == ((rd_T25 l1 x5_1).f0)) || (!((((rd_T25 l0 x5_1).f1).toList) == (((rd_T25 l1 x5_1).f1).toList)) || (!(((rd_T25 l0 x5_1).f2) == ((rd_T25 l1 x5_1).f2))))) = true := c7
                clear c7
                obtain rfl := Option.some.inj H
                have p348 : 0 ≤ (x5_1 : Int) := of_decide_eq_true (by first | (with_reducible assumption) | assumption)
                have q348 : x5_1 < (l0.length : Int) := of_decide_eq_true (by first | (with_reducible assumption) | assumption)
                obtain ⟨ad348, e348, hx348_0, hx348_1, hx348_2⟩ := at_T25 HR0.out x5_1 p348 q348
                cases e348
                replace p348 := eq_true p348
                replace q348 := eq_true q348
                have p349 : 0 ≤ (x5_1 : Int) := of_decide_eq_true (by first | (with_reducible assumption) | assumption)
                have q349 : x5_1 < (l1.length : Int) := of_decide_eq_true (by first | (with_reducible assumption) | assumption)
                obtain ⟨ad349, e349, hx349_0, hx349_1, hx349_2⟩ := at_T25 HR1.out x5_1 p349 q349
                cases e349
                replace p349 := eq_true p349
                replace q349 := eq_true q349
                go_wp2
                repeat (go_quiet (fail); try go_wp2)
                go_ret
                exact ⟨by first | rfl | (simp; done) | (simp [*]; done), by repeat (first | exact Drawn0.refl _ | apply Drawn0.step)⟩
              · rw [if_neg c7] at H
                have c7b0 : (!(((rd_T25 l0 x5_1).f0) == ((rd_T25 l1 x5_1).f0)) || (!((((rd_T25 l0 x5_1).f1).toList) == (((rd_T25 l1 x5_1).f1).toList)) || (!(((rd_T25 l0 x5_1).f2) == ((rd_T25 l1 x5_1).f2))))) = false := by simpa using c7
                clear c7
                have H' := Aside0.mk H
                clear H
                have p348 : 0 ≤ (x5_1 : Int) := of_decide_eq_true (by first | (with_reducible assumption) | assumption)
                have q348 : x5_1 < (l0.length : Int) := of_decide_eq_true (by first | (with_reducible assumption) | assumption)
                obtain ⟨ad348, e348, hx348_0, hx348_1, hx348_2⟩ := at_T25 HR0.out x5_1 p348 q348
                cases e348
                replace p348 := eq_true p348
                replace q348 := eq_true q348
                have p349 : 0 ≤ (x5_1 : Int) := of_decide_eq_true (by first | (with_reducible assumption) | assumption)
                have q349 : x5_1 < (l1.length : Int) := of_decide_eq_true (by first | (with_reducible assumption) | assumption)
                obtain ⟨ad349, e349, hx349_0, hx349_1, hx349_2⟩ := at_T25 HR1.out x5_1 p349 q349
                cases e349
                replace p349 := eq_true p349
                replace q349 := eq_true q349
                go_wp2
                repeat (go_quiet (fail); try go_wp2)
                go_roundg k1
                case measure => have := HK1.out; omega
                case rel => exact ⟨(wrap64 (x5_1 + 1)), (by first | rfl | (simp; done) | (simp [*]; done)), H', ⟨by have := HK1.out; omega⟩, by repeat (first | exact Drawn0.refl _ | apply Drawn0.step)⟩
            · rw [if_neg c6] at H
              exact absurd H (by simp)
          · rw [if_neg c5] at H
            exact absurd H (by simp)
        · rw [if_neg c4] at H
          have c4b0 : decide (x5_1 < (l0.length : Int)) = false := decide_eq_false c4
          clear c4
          obtain rfl := Option.some.inj H
          go_wp2
          repeat (go_quiet (fail); try go_wp2)
          go_ret
          exact ⟨by first | rfl | (simp; done) | (simp [*]; done), by repeat (first | exact Drawn0.refl _ | apply Drawn0.step)⟩
  · rw [if_neg c3] at H
    have c3b0 : ((l0.length : Int) == (l1.length : Int)) = false := beq_eq_false_iff_ne.mpr c3
    have c3b1 : ((l0.length : Int) != (l1.length : Int)) = true := bne_iff_ne.mpr c3
    have c3b2 : (l0.length == l1.length) = false := by first | simpa using c3 | (simp at c3 ⊢; omega)
    obtain rfl := Option.some.inj H
    go_enter Try.func29, Try.ntmps29
    go_wp2
    repeat (go_quiet (fail); try go_wp2)
    go_ret
    exact ⟨by first | rfl | (simp; done) | (simp [*]; done), by repeat (first | exact Drawn0.refl _ | apply Drawn0.step)⟩

/-! ### book_Period: function 30 -/
section PeriodExt
open Go.Proofs.Ytelmnkmpkljboaa.MapKit Go.Proofs.Ytelmnkmpkljboaa.ListKit
def predPeriod (period : Int) (p : S27) : Bool := p.f2 == period
def linesPeriod (period : Int) (l : List S27) : List S25 := (l.filter (predPeriod period)).map (·.f3)
def book_Period.f (k : Nat) (l0 : List S27) (period : Int) : Option (List S25) := (book_Book.f k l0).bind fun b => if b = true then (payslip_Merge.f k (linesPeriod period l0)).bind (fun r => if r.2 = 0 then some r.1 else some []) else some []
theorem book_Period.mono : ∀ a0 period k, LeO (book_Period.f k a0 period) (book_Period.f (k + 1) a0 period) := by
  intro a0 period k
  unfold book_Period.f
  refine LeO.bind (book_Book.mono _ _) fun b => ?_
  by_cases hb : b = true
  · rw [if_pos hb, if_pos hb]; exact LeO.bind (payslip_Merge.mono _ _) fun _ => LeO.refl _
  · rw [if_neg hb, if_neg hb]; exact LeO.refl _
theorem rdP_takePeriod (l : List S27) (x : Int) (h0 : 0 ≤ x) (h : x < (l.length : Int)) : l.take (x + 1).toNat = l.take x.toNat ++ [rd_T27 l x] := by
  have hlt : x.toNat < l.length := by omega
  rw [show (x + 1).toNat = x.toNat + 1 by omega, List.take_succ_eq_append_getElem hlt]
  simp [rd_T27, List.getD_eq_getElem?_getD, List.getElem?_eq_getElem hlt]
set_option maxHeartbeats 8000000 in
set_option maxRecDepth 100000 in
theorem predPeriod_calls (period : Int) (gp : Nat) (x : S27) (W : World) (hgp : W.heap[gp]? = some (.cells #[.int .i64 period] 3 (0, 0))) : Calls Try.prog 51 #[.agg #[.int .i64 x.f0, .int .i64 x.f1, .int .i64 x.f2, .int .i64 x.f3.f0, .string x.f3.f1, .int .i64 x.f3.f2], .pointer (some ⟨gp, 0, none⟩)] W fun e w' => e = .returned (.bool (predPeriod period x)) ∧ Below W.heap.size W w' := by
  have HB := Aside0.mk (Below.refl W.heap.size W)
  have BCgp := Aside0.mk hgp
  clear hgp
  unfold predPeriod
  go_enter Try.func51, Try.ntmps51
  go_wp2_with (first | ((with_reducible refine gate_dst (N := 2) rfl ?_); refine box_event ?hg (N := 2) ?hd (cs := #[.int .i64 x.f0, .int .i64 x.f1, .int .i64 x.f2, .int .i64 x.f3.f0, .string x.f3.f1, .int .i64 x.f3.f2]) (t := 27) ?hr ?_; (case hd => rfl); (case hg => rfl); (case hr => first | (go_simp; done) | (go_simp; rfl)); intro gb2 hg w7 hbox hb; have n0_ := Aside0.mk (below_step HB.out hb); clear HB; have HB := n0_; clear n0_; have hz0 : w7.cell? ⟨gb2, 0, none⟩ = some (.int .i64 x.f0) := (blk_cell hbox 0).trans rfl; have hf0 := blk_frozen hbox 0; have hz1 : w7.cell? ⟨gb2, 1, none⟩ = some (.int .i64 x.f1) := (blk_cell hbox 1).trans rfl; have hf1 := blk_frozen hbox 1; have hz2 : w7.cell? ⟨gb2, 2, none⟩ = some (.int .i64 x.f2) := (blk_cell hbox 2).trans rfl; have hf2 := blk_frozen hbox 2; have hz3 : w7.cell? ⟨gb2, 3, none⟩ = some (.int .i64 x.f3.f0) := (blk_cell hbox 3).trans rfl; have hf3 := blk_frozen hbox 3; have hz4 : w7.cell? ⟨gb2, 4, none⟩ = some (.string x.f3.f1) := (blk_cell hbox 4).trans rfl; have hf4 := blk_frozen hbox 4; have hz5 : w7.cell? ⟨gb2, 5, none⟩ = some (.int .i64 x.f3.f2) := (blk_cell hbox 5).trans rfl; have hf5 := blk_frozen hbox 5; have hcgp : w7.cell? ⟨gp, 0, none⟩ = some (.int .i64 period) := (blk_cell (blk_below BCgp.out hb) 0).trans rfl; clear hbox hb hg))
  repeat (go_quiet (fail); try go_wp2)
  go_ret
  exact ⟨by first | rfl | (simp [*] <;> rfl), by repeat (first | exact HB.out | apply pw_below_drewN | apply below_drew1)⟩
theorem book_shortPeriod (k : Nat) (l : List S27) (h : book_Book.f k l = some true) : l.length ≤ 65536 := by
  unfold book_Book.f at h
  by_cases c : (l.length : Int) > 65536
  · rw [if_pos c] at h; cases h
  · omega
set_option maxHeartbeats 8000000 in
set_option maxRecDepth 100000 in
theorem mergedPeriod (k : Nat) (A0 : Option Addr) (c0 : Nat) (l0 : List S27) (period : Int) (gp : Nat) (r : List S25) (w : World) (hr0 : Kd.C k27 w A0 l0.length l0) (hc0 : l0.length ≤ c0) (hgp : w.heap[gp]? = some (.cells #[.int .i64 period] 3 (0, 0))) (h : book_Period.f k l0 period = some r) :
    Calls Try.prog 47 #[.slice A0 l0.length c0, .func (.func 51) #[] #[.pointer (some ⟨gp, 0, none⟩)]] w fun e w' => ∃ v0_ : Value, e = .returned v0_ ∧ Kd.R k25 25 w' w.heap.size (fun _ => True) v0_ r ∧ Below w.heap.size w w' := by
  have hu27 := Try.underlying27
  have hu25 := Try.underlying25
  have HR0 := Aside0.mk hr0
  have HC0 := Aside0.mk hc0
  have BCgp := Aside0.mk hgp
  clear hr0 hc0 hgp
  have HB := Aside0.mk (Below.refl w.heap.size w)
  unfold book_Period.f at h
  obtain ⟨b, A10, H⟩ := Option.bind_eq_some_iff.1 h
  have A1 := Aside0.mk A10
  clear h A10
  cases b with
  | false =>
    simp only [Bool.false_eq_true, if_false, Option.some.injEq] at H
    subst H
    go_enter Try.func47, Try.ntmps47
    go_wp2_with (first | ((with_reducible refine gate_callee (f := 14) rfl ?_); refine goesL_ (some 11) rfl rfl Try.func14 (by kernel_rfl) rfl #[.slice A0 l0.length c0] rfl (by (try simp only [List.map_toArray, List.map_cons, List.map_nil]); first | done | rfl) ?_; (with_reducible refine (book_Book.calls k _ _ l0 false _ ?side1 ?side2 A1.out).mono ?_); (case side1 => exact HR0.out); (case side2 => exact HC0.out); rintro e w4 ⟨rfl, hb⟩; refine ⟨_, rfl, ?_⟩; have n0_ := Aside0.mk (below_step HB.out hb); clear HB; have HB := n0_; clear n0_ hb))
    go_ret
    exact ⟨_, by first | rfl | (simp [*] <;> rfl), Kd.R_nil _ _ _ _ _, HB.out⟩
  | true =>
    simp only [if_true] at H
    obtain ⟨⟨m, t⟩, A20, H⟩ := Option.bind_eq_some_iff.1 H
    replace H : (if t = 0 then some m else some []) = some r := H
    have A2_ := Aside0.mk A20
    have H' := Aside0.mk H
    have HL := Aside0.mk (book_shortPeriod k l0 A1.out)
    clear A20 H
    go_enter Try.func47, Try.ntmps47
    go_wp2_with (first | ((with_reducible refine gate_callee (f := 14) rfl ?_); refine goesL_ (some 11) rfl rfl Try.func14 (by kernel_rfl) rfl #[.slice A0 l0.length c0] rfl (by (try simp only [List.map_toArray, List.map_cons, List.map_nil]); first | done | rfl) ?_; (with_reducible refine (book_Book.calls k _ _ l0 true _ ?side1 ?side2 A1.out).mono ?_); (case side1 => exact HR0.out); (case side2 => exact HC0.out); rintro e w4 ⟨rfl, hb⟩; refine ⟨_, rfl, ?_⟩; have n0_ := Aside0.mk (below_step HB.out hb); clear HB; have HB := n0_; clear n0_ hb))
    try go_frame
    go_loopw [5, 15] (fun v i wr => ∃ (x : Int) (out : List S25), i = .int .i64 x ∧ Aside0 (0 ≤ x ∧ x ≤ l0.length) ∧ Aside0 (out = linesPeriod period (l0.take x.toNat)) ∧ Aside0 ((out.length : Int) ≤ x) ∧ Aside0 (Kd.R k25 25 wr w.heap.size (fun _ => True) v out) ∧ Aside0 (Below w.heap.size w wr)) (fun _ i _ => l0.length - (intOf i).toNat)
    case atStart => exact ⟨0, [], rfl, ⟨by omega, by omega⟩, ⟨by simp [linesPeriod]⟩, ⟨by simp⟩, ⟨Kd.R_nil _ _ _ _ _⟩, HB⟩
    case round =>
      clear HB
      obtain ⟨x, out, rfl, HX, HE, HOL, HO, HB⟩ := hrel
      by_cases c7 : x < (l0.length : Int)
      · have c7b0 : decide (x < (l0.length : Int)) = true := decide_eq_true c7
        have p117 : 0 ≤ x := HX.out.1
        have q117 : x < (l0.length : Int) := c7
        have HY := Aside0.mk c7
        have hst := Aside0.mk (rdP_takePeriod l0 x p117 c7)
        clear c7
        obtain ⟨ad117, e117, hx117_0, hx117_1, hx117_2, hx117_3, hx117_4, hx117_5⟩ := at_T27 HR0.out x p117 q117
        cases e117
        replace hx117_0 := pw_cell_below HB.out hx117_0
        replace hx117_1 := pw_cell_below HB.out hx117_1
        replace hx117_2 := pw_cell_below HB.out hx117_2
        replace hx117_3 := pw_cell_below HB.out hx117_3
        replace hx117_4 := pw_cell_below HB.out hx117_4
        replace hx117_5 := pw_cell_below HB.out hx117_5
        replace p117 := eq_true p117
        replace q117 := eq_true q117
        obtain ⟨pj, hpj⟩ : ∃ pj, pj = rd_T27 l0 x := ⟨_, rfl⟩
        rw [← hpj] at hst hx117_0 hx117_1 hx117_2 hx117_3 hx117_4 hx117_5
        clear hpj
        obtain ⟨b, hbv⟩ : ∃ b, predPeriod period pj = b := ⟨_, rfl⟩
        have HBV := Aside0.mk hbv
        clear hbv
        cases b with
        | true =>
          go_wp2_with (first
            | ((with_reducible refine gate_dst (N := 7) rfl ?_); refine box_event ?hg (N := 7) ?hd (cs := #[.int .i64 0, .int .i64 0, .int .i64 0, .int .i64 0, .string ⟨#[]⟩, .int .i64 0]) (t := 27) ?hr ?_; (case hd => rfl); (case hg => rfl); (case hr => first | (go_simp; done) | (go_simp; rfl)); intro gb2 hg w7 hbox hb; have n0_ := Aside0.mk (below_step HB.out hb); have n1_ := Aside0.mk (lineFlat.kept HO.out (grown_of_below hb none) (fun k hk e => by cases e)); have GE2 := Aside0.mk ((by rw [hg]; exact below_size HB.out) : w.heap.size ≤ gb2); have NE2 := Aside0.mk (Kd.R_ne n1_.out hbox (by decide)); have BK := Aside0.mk hbox; clear HB HO; have HB := n0_; have HO := n1_; clear n0_ n1_ hb hg; have hz0 : w7.cell? ⟨gb2, 0, none⟩ = some (.int .i64 0) := (blk_cell hbox 0).trans rfl; have hf0 := blk_frozen hbox 0; have hz1 : w7.cell? ⟨gb2, 1, none⟩ = some (.int .i64 0) := (blk_cell hbox 1).trans rfl; have hf1 := blk_frozen hbox 1; have hz2 : w7.cell? ⟨gb2, 2, none⟩ = some (.int .i64 0) := (blk_cell hbox 2).trans rfl; have hf2 := blk_frozen hbox 2; have hz3 : w7.cell? ⟨gb2, 3, none⟩ = some (.int .i64 0) := (blk_cell hbox 3).trans rfl; have hf3 := blk_frozen hbox 3; have hz4 : w7.cell? ⟨gb2, 4, none⟩ = some (.string ⟨#[]⟩) := (blk_cell hbox 4).trans rfl; have hf4 := blk_frozen hbox 4; have hz5 : w7.cell? ⟨gb2, 5, none⟩ = some (.int .i64 0) := (blk_cell hbox 5).trans rfl; have hf5 := blk_frozen hbox 5; clear hbox)
            | (go_at_call 51; (with_reducible refine (predPeriod_calls period gp pj _ (blk_far (blk_far (blk_far (blk_far (blk_far (blk_far (blk_below BCgp.out HB.out) (show gp ≠ gb2 from Nat.ne_of_lt (Nat.lt_of_lt_of_le (blk_lt BCgp.out) GE2.out)) _) (show gp ≠ gb2 from Nat.ne_of_lt (Nat.lt_of_lt_of_le (blk_lt BCgp.out) GE2.out)) _) (show gp ≠ gb2 from Nat.ne_of_lt (Nat.lt_of_lt_of_le (blk_lt BCgp.out) GE2.out)) _) (show gp ≠ gb2 from Nat.ne_of_lt (Nat.lt_of_lt_of_le (blk_lt BCgp.out) GE2.out)) _) (show gp ≠ gb2 from Nat.ne_of_lt (Nat.lt_of_lt_of_le (blk_lt BCgp.out) GE2.out)) _) (show gp ≠ gb2 from Nat.ne_of_lt (Nat.lt_of_lt_of_le (blk_lt BCgp.out) GE2.out)) _)).mono ?_); rintro e w9 ⟨rfl, hb⟩; rw [HBV.out]; have n0_ := Aside0.mk (below_step (below_set (below_set (below_set (below_set (below_set (below_set HB.out GE2.out) GE2.out) GE2.out) GE2.out) GE2.out) GE2.out) hb); have n1_ := Aside0.mk (Kd.R_below (lineFlat.kept (lineFlat.kept (lineFlat.kept (lineFlat.kept (lineFlat.kept (lineFlat.kept HO.out (pset_grown _ ⟨gb2, 0, none⟩ _) (fun k hk e => NE2.out (e.symm.trans hk.symm))) (pset_grown _ ⟨gb2, 1, none⟩ _) (fun k hk e => NE2.out (e.symm.trans hk.symm))) (pset_grown _ ⟨gb2, 2, none⟩ _) (fun k hk e => NE2.out (e.symm.trans hk.symm))) (pset_grown _ ⟨gb2, 3, none⟩ _) (fun k hk e => NE2.out (e.symm.trans hk.symm))) (pset_grown _ ⟨gb2, 4, none⟩ _) (fun k hk e => NE2.out (e.symm.trans hk.symm))) (pset_grown _ ⟨gb2, 5, none⟩ _) (fun k hk e => NE2.out (e.symm.trans hk.symm))) hb); have n2_ : Aside0 (w9.heap[gb2]? = some (.cells #[.int .i64 pj.f0, .int .i64 pj.f1, .int .i64 pj.f2, .int .i64 pj.f3.f0, .string pj.f3.f1, .int .i64 pj.f3.f2] 27 (0, 0))) := Aside0.mk (blk_below (blk_put (blk_put (blk_put (blk_put (blk_put (blk_put BK.out 0 _ rfl) 1 _ rfl) 2 _ rfl) 3 _ rfl) 4 _ rfl) 5 _ rfl) hb); clear HB HO BK hz0 hf0 hz1 hf1 hz2 hf2 hz3 hf3 hz4 hf4 hz5 hf5; have HB := n0_; have HO := n1_; have hbox := n2_.out; clear n0_ n1_ n2_ hb; have hz0 : w9.cell? ⟨gb2, 0, none⟩ = some (.int .i64 pj.f0) := (blk_cell hbox 0).trans rfl; have hf0 := blk_frozen hbox 0; have hz1 : w9.cell? ⟨gb2, 1, none⟩ = some (.int .i64 pj.f1) := (blk_cell hbox 1).trans rfl; have hf1 := blk_frozen hbox 1; have hz2 : w9.cell? ⟨gb2, 2, none⟩ = some (.int .i64 pj.f2) := (blk_cell hbox 2).trans rfl; have hf2 := blk_frozen hbox 2; have hz3 : w9.cell? ⟨gb2, 3, none⟩ = some (.int .i64 pj.f3.f0) := (blk_cell hbox 3).trans rfl; have hf3 := blk_frozen hbox 3; have hz4 : w9.cell? ⟨gb2, 4, none⟩ = some (.string pj.f3.f1) := (blk_cell hbox 4).trans rfl; have hf4 := blk_frozen hbox 4; have hz5 : w9.cell? ⟨gb2, 5, none⟩ = some (.int .i64 pj.f3.f2) := (blk_cell hbox 5).trans rfl; have hf5 := blk_frozen hbox 5; clear hbox)
            | ((with_reducible refine gate_builtin (b := .append) (xs := #[.tmp 22, .tmp 25]) rfl ?_); at_builtin; refine Kd.R_append k25 (w0 := w) w.heap.size rfl (.tmp 22) (.tmp 25) 47 25 (.agg #[(.int .i64 0), (.string ⟨#[]⟩), (.int .i64 0)]) 32 rfl Try.underlying47 info25 rfl (by decide) (by omega) u5 out pj.f3 [.int .i64 pj.f3.f0, .string pj.f3.f1, .int .i64 pj.f3.f2] (fun _ => True) (fun _ => False) rfl rfl ?aP (fun _ hk => hk.elim) ?aF HO.out HB.out (below_size HB.out) ?aL ?_; (case aP => exact k25_mkM _ _ _ pj.f3); (case aF => exact (fun _ _ => trivial)); (case aL => have := HOL.out; have := HX.out; have := HL.out; omega); intro v1 w2 hO hB hg _; have n0_ := Aside0.mk hO; have n1_ := Aside0.mk hB; clear HO HB; have HO := n0_; have HB := n1_; clear n0_ n1_ hO hB hg))
          go_roundw
          case rel =>
            have hx := HX.out
            have hy := HY.out
            have hl := HL.out
            refine ⟨x + 1, out ++ [pj.f3], by first | rfl | (rw [show wrap64 (x + 1) = x + 1 by unfold wrap64; omega]), ⟨by omega, by omega⟩, ⟨?_⟩, ⟨by rw [List.length_append, List.length_singleton]; have := HOL.out; omega⟩, HO, HB⟩
            rw [hst.out, HE.out]
            simp [linesPeriod, HBV.out]
          case measure =>
            have hx := HX.out
            have hy := HY.out
            have hl := HL.out
            have e : wrap64 (x + 1) = x + 1 := by unfold wrap64; omega
            simp [intOf, e]; omega
        | false =>
          go_wp2_with (first
            | ((with_reducible refine gate_dst (N := 7) rfl ?_); refine box_event ?hg (N := 7) ?hd (cs := #[.int .i64 0, .int .i64 0, .int .i64 0, .int .i64 0, .string ⟨#[]⟩, .int .i64 0]) (t := 27) ?hr ?_; (case hd => rfl); (case hg => rfl); (case hr => first | (go_simp; done) | (go_simp; rfl)); intro gb2 hg w7 hbox hb; have n0_ := Aside0.mk (below_step HB.out hb); have n1_ := Aside0.mk (lineFlat.kept HO.out (grown_of_below hb none) (fun k hk e => by cases e)); have GE2 := Aside0.mk ((by rw [hg]; exact below_size HB.out) : w.heap.size ≤ gb2); have NE2 := Aside0.mk (Kd.R_ne n1_.out hbox (by decide)); have BK := Aside0.mk hbox; clear HB HO; have HB := n0_; have HO := n1_; clear n0_ n1_ hb hg; have hz0 : w7.cell? ⟨gb2, 0, none⟩ = some (.int .i64 0) := (blk_cell hbox 0).trans rfl; have hf0 := blk_frozen hbox 0; have hz1 : w7.cell? ⟨gb2, 1, none⟩ = some (.int .i64 0) := (blk_cell hbox 1).trans rfl; have hf1 := blk_frozen hbox 1; have hz2 : w7.cell? ⟨gb2, 2, none⟩ = some (.int .i64 0) := (blk_cell hbox 2).trans rfl; have hf2 := blk_frozen hbox 2; have hz3 : w7.cell? ⟨gb2, 3, none⟩ = some (.int .i64 0) := (blk_cell hbox 3).trans rfl; have hf3 := blk_frozen hbox 3; have hz4 : w7.cell? ⟨gb2, 4, none⟩ = some (.string ⟨#[]⟩) := (blk_cell hbox 4).trans rfl; have hf4 := blk_frozen hbox 4; have hz5 : w7.cell? ⟨gb2, 5, none⟩ = some (.int .i64 0) := (blk_cell hbox 5).trans rfl; have hf5 := blk_frozen hbox 5; clear hbox)
            | (go_at_call 51; (with_reducible refine (predPeriod_calls period gp pj _ (blk_far (blk_far (blk_far (blk_far (blk_far (blk_far (blk_below BCgp.out HB.out) (show gp ≠ gb2 from Nat.ne_of_lt (Nat.lt_of_lt_of_le (blk_lt BCgp.out) GE2.out)) _) (show gp ≠ gb2 from Nat.ne_of_lt (Nat.lt_of_lt_of_le (blk_lt BCgp.out) GE2.out)) _) (show gp ≠ gb2 from Nat.ne_of_lt (Nat.lt_of_lt_of_le (blk_lt BCgp.out) GE2.out)) _) (show gp ≠ gb2 from Nat.ne_of_lt (Nat.lt_of_lt_of_le (blk_lt BCgp.out) GE2.out)) _) (show gp ≠ gb2 from Nat.ne_of_lt (Nat.lt_of_lt_of_le (blk_lt BCgp.out) GE2.out)) _) (show gp ≠ gb2 from Nat.ne_of_lt (Nat.lt_of_lt_of_le (blk_lt BCgp.out) GE2.out)) _)).mono ?_); rintro e w9 ⟨rfl, hb⟩; rw [HBV.out]; have n0_ := Aside0.mk (below_step (below_set (below_set (below_set (below_set (below_set (below_set HB.out GE2.out) GE2.out) GE2.out) GE2.out) GE2.out) GE2.out) hb); have n1_ := Aside0.mk (Kd.R_below (lineFlat.kept (lineFlat.kept (lineFlat.kept (lineFlat.kept (lineFlat.kept (lineFlat.kept HO.out (pset_grown _ ⟨gb2, 0, none⟩ _) (fun k hk e => NE2.out (e.symm.trans hk.symm))) (pset_grown _ ⟨gb2, 1, none⟩ _) (fun k hk e => NE2.out (e.symm.trans hk.symm))) (pset_grown _ ⟨gb2, 2, none⟩ _) (fun k hk e => NE2.out (e.symm.trans hk.symm))) (pset_grown _ ⟨gb2, 3, none⟩ _) (fun k hk e => NE2.out (e.symm.trans hk.symm))) (pset_grown _ ⟨gb2, 4, none⟩ _) (fun k hk e => NE2.out (e.symm.trans hk.symm))) (pset_grown _ ⟨gb2, 5, none⟩ _) (fun k hk e => NE2.out (e.symm.trans hk.symm))) hb); have n2_ : Aside0 (w9.heap[gb2]? = some (.cells #[.int .i64 pj.f0, .int .i64 pj.f1, .int .i64 pj.f2, .int .i64 pj.f3.f0, .string pj.f3.f1, .int .i64 pj.f3.f2] 27 (0, 0))) := Aside0.mk (blk_below (blk_put (blk_put (blk_put (blk_put (blk_put (blk_put BK.out 0 _ rfl) 1 _ rfl) 2 _ rfl) 3 _ rfl) 4 _ rfl) 5 _ rfl) hb); clear HB HO BK hz0 hf0 hz1 hf1 hz2 hf2 hz3 hf3 hz4 hf4 hz5 hf5; have HB := n0_; have HO := n1_; have hbox := n2_.out; clear n0_ n1_ n2_ hb; have hz0 : w9.cell? ⟨gb2, 0, none⟩ = some (.int .i64 pj.f0) := (blk_cell hbox 0).trans rfl; have hf0 := blk_frozen hbox 0; have hz1 : w9.cell? ⟨gb2, 1, none⟩ = some (.int .i64 pj.f1) := (blk_cell hbox 1).trans rfl; have hf1 := blk_frozen hbox 1; have hz2 : w9.cell? ⟨gb2, 2, none⟩ = some (.int .i64 pj.f2) := (blk_cell hbox 2).trans rfl; have hf2 := blk_frozen hbox 2; have hz3 : w9.cell? ⟨gb2, 3, none⟩ = some (.int .i64 pj.f3.f0) := (blk_cell hbox 3).trans rfl; have hf3 := blk_frozen hbox 3; have hz4 : w9.cell? ⟨gb2, 4, none⟩ = some (.string pj.f3.f1) := (blk_cell hbox 4).trans rfl; have hf4 := blk_frozen hbox 4; have hz5 : w9.cell? ⟨gb2, 5, none⟩ = some (.int .i64 pj.f3.f2) := (blk_cell hbox 5).trans rfl; have hf5 := blk_frozen hbox 5; clear hbox))
          go_roundw
          case rel =>
            have hx := HX.out
            have hy := HY.out
            have hl := HL.out
            refine ⟨x + 1, out, by first | rfl | (rw [show wrap64 (x + 1) = x + 1 by unfold wrap64; omega]), ⟨by omega, by omega⟩, ⟨?_⟩, ⟨by have := HOL.out; omega⟩, HO, HB⟩
            rw [hst.out, HE.out]
            simp [linesPeriod, HBV.out]
          case measure =>
            have hx := HX.out
            have hy := HY.out
            have hl := HL.out
            have e : wrap64 (x + 1) = x + 1 := by unfold wrap64; omega
            simp [intOf, e]; omega
      · have c7b0 : decide (x < (l0.length : Int)) = false := decide_eq_false c7
        have hxl : x.toNat = l0.length := by have := HX.out; omega
        have he := HE.out
        rw [hxl, List.take_length] at he
        obtain ⟨ml, hml⟩ : ∃ ml, ml = linesPeriod period l0 := ⟨_, rfl⟩
        rw [← hml] at he
        subst he
        have A2 := Aside0.mk (show payslip_Merge.f k out = some (m, t) by rw [hml]; exact A2_.out)
        clear hxl c7 HX HE A2_ hml HOL
        obtain ⟨Ao, co, eo⟩ := Kd.R_slice HO.out
        by_cases ht : t = 0
        · subst ht
          have H := H'.out
          rw [if_pos rfl] at H
          obtain rfl := Option.some.inj H
          cases eo
          go_wp2_with (first | ((with_reducible refine gate_callee (f := 28) rfl ?_); refine goesL_ (some 30) rfl rfl Try.func28 (by kernel_rfl) rfl #[.slice Ao out.length co] rfl (by (try simp only [List.map_toArray, List.map_cons, List.map_nil]); first | done | rfl) ?_; (with_reducible refine (payslip_Merge.calls k _ _ out m 0 _ ?side1 ?side2 A2.out).mono ?_); (case side1 => exact (Kd.R_reads' HO.out).2.2); (case side2 => exact (Kd.R_reads' HO.out).2.1); rintro e w8 ⟨v8, rfl, hR, hb⟩; refine ⟨_, rfl, ?_⟩; have HO2 := Aside0.mk (Kd.R_lower hR (below_size HB.out)); have n0_ := Aside0.mk (below_step HB.out hb); clear HB HO; have HB := n0_; clear n0_ hb hR))
          go_ret
          exact ⟨_, by first | rfl | (simp [*] <;> rfl), HO2.out, HB.out⟩
        · have H := H'.out
          rw [if_neg ht] at H
          obtain rfl := Option.some.inj H
          have ht0 : (t == 0) = false := beq_eq_false_iff_ne.mpr ht
          have ht1 : (t != 0) = true := bne_iff_ne.mpr ht
          clear ht H
          cases eo
          go_wp2_with (first | ((with_reducible refine gate_callee (f := 28) rfl ?_); refine goesL_ (some 30) rfl rfl Try.func28 (by kernel_rfl) rfl #[.slice Ao out.length co] rfl (by (try simp only [List.map_toArray, List.map_cons, List.map_nil]); first | done | rfl) ?_; (with_reducible refine (payslip_Merge.calls k _ _ out m t _ ?side1 ?side2 A2.out).mono ?_); (case side1 => exact (Kd.R_reads' HO.out).2.2); (case side2 => exact (Kd.R_reads' HO.out).2.1); rintro e w8 ⟨v8, rfl, hR, hb⟩; refine ⟨_, rfl, ?_⟩; have HO2 := Aside0.mk (Kd.R_lower hR (below_size HB.out)); have n0_ := Aside0.mk (below_step HB.out hb); clear HB HO; have HB := n0_; clear n0_ hb hR))
          go_ret
          exact ⟨_, by first | rfl | (simp [*] <;> rfl), Kd.R_nil _ _ _ _ _, HB.out⟩
set_option maxHeartbeats 8000000 in
set_option maxRecDepth 100000 in
theorem book_Period.calls (k : Nat) (A0 : Option Addr) (c0 : Nat) (l0 : List S27) (period : Int) (r : List S25) (w : World) (hr0 : Kd.C k27 w A0 l0.length l0) (hc0 : l0.length ≤ c0) (h : book_Period.f k l0 period = some r) :
    Calls Try.prog 30 #[.slice A0 l0.length c0, .int .i64 period] w fun e w' => ∃ v0_ : Value, e = .returned v0_ ∧ Kd.R k25 25 w' w.heap.size (fun _ => True) v0_ r ∧ Below w.heap.size w w' := by
  have HR0 := Aside0.mk hr0
  have HC0 := Aside0.mk hc0
  have A1 := Aside0.mk h
  clear hr0 hc0 h
  have HB := Aside0.mk (Below.refl w.heap.size w)
  go_enter Try.func30, Try.ntmps30
  go_wp2_with (first
    | ((with_reducible refine gate_dst (N := 3) rfl ?_); refine box_event ?hg (N := 3) ?hd (cs := #[.int .i64 period]) (t := 3) ?hr ?_; (case hd => rfl); (case hg => rfl); (case hr => first | (go_simp; done) | (go_simp; rfl)); intro gp hg w7 hbox hb; have BCgp := Aside0.mk hbox; have n0_ := Aside0.mk (below_step HB.out hb); clear HB; have HB := n0_; clear n0_ hb hbox hg)
    | ((with_reducible refine gate_callee (f := 47) rfl ?_); refine goesL_ (some 7) rfl rfl Try.func47 (by kernel_rfl) rfl #[.slice A0 l0.length c0, .func (.func 51) #[] #[.pointer (some ⟨gp, 0, none⟩)]] rfl (by (try simp only [List.map_toArray, List.map_cons, List.map_nil]); first | done | rfl) ?_; (with_reducible refine (mergedPeriod k _ _ l0 period gp r _ ?side1 ?side2 BCgp.out A1.out).mono ?_); (case side1 => exact Kd.C_below HR0.out HB.out); (case side2 => exact HC0.out); rintro e w8 ⟨v8, rfl, hR, hb⟩; refine ⟨_, rfl, ?_⟩; have HO := Aside0.mk (Kd.R_lower hR (below_size HB.out)); have n0_ := Aside0.mk (below_step HB.out hb); clear HB; have HB := n0_; clear n0_ hb hR))
  go_ret
  exact ⟨_, by first | rfl | (simp [*] <;> rfl), HO.out, HB.out⟩
end PeriodExt

end Go.Proofs.Ytelmnkmpkljboaa.Q
