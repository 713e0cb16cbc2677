-- Printed by wip/xprint.py over the translation, with contracts proved by hand among them. Lean checks it.
import Derived.Test.YtfakedchahildaaQx0
import Derived.Test.YtfakedchahildaaQx7
import Derived.Test.YtfakedchahildaaQx8
import Derived.Test.YtfakedchahildaaQx10
import Derived.Test.YtfakedchahildaaQx11
import Derived.Test.YtfakedchahildaaQx16
namespace Go.Proofs.Ytfakedchahildaa.Q
open Go.RowKit Go.Proofs.YtfakedchahildaaW.PrintWords Go.Proofs.YtfakedchahildaaW.PrintLast Go.Proofs.YtfakedchahildaaW.PrintMore
attribute [local go_sem] max2_int min2_int max_two min_two max_three min_three max_four min_four   -- for this text's walks alone
set_option linter.unusedVariables false
set_option linter.unusedSimpArgs false

/-! ### payrolllaw44_LedgerCancels: function 7 -/
def payrolllaw44_LedgerCancels.l0 : Nat → List (S28) → Int → Int → List (S42) → Int → List (S28) → Int → Option (Bool)
  | 0, _, _, _, _, _, _, _ => none
  | k + 1, x5, x6, x8, x9, x10, x11, x12 => if x12 < (x5.length : Int) then (if 0 ≤ x12 then (if ((rd_T28 x5 x12).f0) = x6 then (payrolllaw44_LedgerCancels.l0 k x5 x6 x8 x9 x10 x11 (wrap64 (x12 + 1))) else (if x11.length < 2513169434916 then (payrolllaw44_LedgerCancels.l0 k x5 x6 x8 x9 x10 (x11 ++ [(⟨(rd_T28 x5 x12).f0, (rd_T28 x5 x12).f1, (rd_T28 x5 x12).f2, (⟨(rd_T28 x5 x12).f3.f0, (rd_T28 x5 x12).f3.f1, (rd_T28 x5 x12).f3.f2⟩ : S26)⟩ : S28)]) (wrap64 (x12 + 1))) else (none))) else (none)) else ((payrolllaw44_wages.f k).bind fun t394 => ((ledger_Entries.f k t394 x11).bind fun bt397 => ((ledger_Trial.f k x9).bind fun bt401 => ((ledger_Trial.f k bt397.1).bind fun bt405 => (if x8 = 0 then (if x10 = 0 then (if bt397.2 = 0 then (if bt401.2 = 0 then (if bt405.2 = 0 then ((payrollref44_Same.f k bt401.1 bt405.1).bind fun t409 => (if t409 = true then ((payrolllaw44_awake.f k).bind fun t410 => (some t410)) else (none))) else (none)) else (none)) else (none)) else (none)) else (none))))))
def payrolllaw44_LedgerCancels.f (k : Nat) (l0 : List Int) (a1 : Int) : Option (Bool) := (paygen_New.f l0).bind fun bt359 => ((paygen_Deck_Book.f k bt359.1 bt359.2 5).bind fun bt362 => (if (bt362.1.length : Int) = 0 then ((payrolllaw44_awake.f k).bind fun t366 => (some t366)) else ((paygen_Mod.f a1 (bt362.1.length : Int)).bind fun t367 => (if 0 ≤ t367 then (if t367 < (bt362.1.length : Int) then ((payrollref35_Undo.f k bt362.1 ((rd_T28 bt362.1 t367).f0) 50).bind fun bt369 => ((payrolllaw44_wages.f k).bind fun t373 => ((some (([] : List (S28)) : List (S28))).bind fun y376 => (if y376.length + bt362.1.length < 2513169434916 then ((some (y376 ++ bt362.1 : List (S28))).bind fun y379 => (if y379.length + bt369.1.length < 2513169434916 then ((ledger_Entries.f k t373 (y379 ++ bt369.1)).bind fun bt385 => (payrolllaw44_LedgerCancels.l0 k bt362.1 ((rd_T28 bt362.1 t367).f0) bt369.2 bt385.1 bt385.2 ([] : List (S28)) 0)) else (none))) else (none))))) else (none)) else (none)))))
theorem payrolllaw44_LedgerCancels.mono_l : ∀ k, (∀ y0 y1 y2 y3 y4 y5 y6, LeO (payrolllaw44_LedgerCancels.l0 k y0 y1 y2 y3 y4 y5 y6) (payrolllaw44_LedgerCancels.l0 (k + 1) y0 y1 y2 y3 y4 y5 y6))
  | 0 => fun _ _ _ _ _ _ _ r h => by simp [payrolllaw44_LedgerCancels.l0] at h
  | k + 1 => by
    have ih0 := payrolllaw44_LedgerCancels.mono_l k
    · intro y0 y1 y2 y3 y4 y5 y6
      unfold payrolllaw44_LedgerCancels.l0
      repeat' first
      | (with_reducible exact ih0 _ _ _ _ _ _ _)
      | (with_reducible exact ledger_Entries.mono _ _ _)
      | (with_reducible exact ledger_Trial.mono _ _)
      | (with_reducible exact paygen_Deck_Book.mono _ _ _ _)
      | (with_reducible exact payrolllaw44_awake.mono _)
      | (with_reducible exact payrolllaw44_wages.mono _)
      | (with_reducible exact payrollref35_Undo.mono _ _ _ _)
      | (with_reducible exact payrollref44_Same.mono _ _ _)
      | (with_reducible exact LeO.refl _)
      | (with_reducible exact LeO.none _)
      | (with_reducible refine LeO.ite ?_ ?_)
      | (with_reducible refine LeO.bind ?_ (fun _ => ?_))
      | exact ih0 _ _ _ _ _ _ _
      | exact ledger_Entries.mono _ _ _
      | exact ledger_Trial.mono _ _
      | exact paygen_Deck_Book.mono _ _ _ _
      | exact payrolllaw44_awake.mono _
      | exact payrolllaw44_wages.mono _
      | exact payrollref35_Undo.mono _ _ _ _
      | exact payrollref44_Same.mono _ _ _
      | exact LeO.none _
      | refine LeO.ite ?_ ?_
      | refine LeO.bind ?_ (fun _ => ?_)
theorem payrolllaw44_LedgerCancels.mono : ∀ a0 a1 k, LeO (payrolllaw44_LedgerCancels.f k a0 a1) (payrolllaw44_LedgerCancels.f (k + 1) a0 a1) := by
  intro a0 a1 k
  have ih0 := payrolllaw44_LedgerCancels.mono_l k
  unfold payrolllaw44_LedgerCancels.f
  repeat' first
      | (with_reducible exact ih0 _ _ _ _ _ _ _)
      | (with_reducible exact ledger_Entries.mono _ _ _)
      | (with_reducible exact ledger_Trial.mono _ _)
      | (with_reducible exact paygen_Deck_Book.mono _ _ _ _)
      | (with_reducible exact payrolllaw44_awake.mono _)
      | (with_reducible exact payrolllaw44_wages.mono _)
      | (with_reducible exact payrollref35_Undo.mono _ _ _ _)
      | (with_reducible exact payrollref44_Same.mono _ _ _)
      | (with_reducible exact LeO.refl _)
      | (with_reducible exact LeO.none _)
      | (with_reducible refine LeO.ite ?_ ?_)
      | (with_reducible refine LeO.bind ?_ (fun _ => ?_))
      | exact ih0 _ _ _ _ _ _ _
      | exact ledger_Entries.mono _ _ _
      | exact ledger_Trial.mono _ _
      | exact paygen_Deck_Book.mono _ _ _ _
      | exact payrolllaw44_awake.mono _
      | exact payrolllaw44_wages.mono _
      | exact payrollref35_Undo.mono _ _ _ _
      | exact payrollref44_Same.mono _ _ _
      | exact LeO.none _
      | refine LeO.ite ?_ ?_
      | refine LeO.bind ?_ (fun _ => ?_)
set_option maxHeartbeats 8000000 in
set_option maxRecDepth 100000 in
theorem payrolllaw44_LedgerCancels.calls (k : Nat) (A0 : Option Addr) (c0 : Nat) (l0 : List Int) (a1 : Int) (r : Bool) (w : World) (hr0 : Kd.C (Kd.int .i64) w A0 l0.length l0) (hc0 : l0.length ≤ c0) (h : payrolllaw44_LedgerCancels.f k l0 a1 = some r) :
    Calls Try.prog 7 #[.slice A0 l0.length c0, .int .i64 a1] w fun e w' => e = .returned (.bool r) ∧ Below w.heap.size w w' := by
  have hu28 := Try.underlying28
  have HR0 := Aside0.mk hr0
  have HC0 := Aside0.mk hc0
  clear hr0 hc0
  have HB := Aside0.mk (Below.refl w.heap.size w)
  have H : ((paygen_New.f l0).bind fun bt359 => ((paygen_Deck_Book.f k bt359.1 bt359.2 5).bind fun bt362 => (if (bt362.1.length : Int) = 0 then ((payrolllaw44_awake.f k).bind fun t366 => (some t366)) else ((paygen_Mod.f a1 (bt362.1.length : Int)).bind fun t367 => (if 0 ≤ t367 then (if t367 < (bt362.1.length : Int) then ((payrollref35_Undo.f k bt362.1 ((rd_T28 bt362.1 t367).f0) 50).bind fun bt369 => ((payrolllaw44_wages.f k).bind fun t373 => ((some (([] : List (S28)) : List (S28))).bind fun y376 => (if y376.length + bt362.1.length < 2513169434916 then ((some (y376 ++ bt362.1 : List (S28))).bind fun y379 => (if y379.length + bt369.1.length < 2513169434916 then ((ledger_Entries.f k t373 (y379 ++ bt369.1)).bind fun bt385 => (payrolllaw44_LedgerCancels.l0 k bt362.1 ((rd_T28 bt362.1 t367).f0) bt369.2 bt385.1 bt385.2 ([] : List (S28)) 0)) else (none))) else (none))))) else (none)) else (none)))))) = some r := h
  clear h
  replace H := Option.bind_eq_some_iff.mp H
  obtain ⟨⟨t359, t360⟩, A30, H⟩ := H
  replace H : ((paygen_Deck_Book.f k t359 t360 5).bind fun bt362 => (if (bt362.1.length : Int) = 0 then ((payrolllaw44_awake.f k).bind fun t366 => (some t366)) else ((paygen_Mod.f a1 (bt362.1.length : Int)).bind fun t367 => (if 0 ≤ t367 then (if t367 < (bt362.1.length : Int) then ((payrollref35_Undo.f k bt362.1 ((rd_T28 bt362.1 t367).f0) 50).bind fun bt369 => ((payrolllaw44_wages.f k).bind fun t373 => ((some (([] : List (S28)) : List (S28))).bind fun y376 => (if y376.length + bt362.1.length < 2513169434916 then ((some (y376 ++ bt362.1 : List (S28))).bind fun y379 => (if y379.length + bt369.1.length < 2513169434916 then ((ledger_Entries.f k t373 (y379 ++ bt369.1)).bind fun bt385 => (payrolllaw44_LedgerCancels.l0 k bt362.1 ((rd_T28 bt362.1 t367).f0) bt369.2 bt385.1 bt385.2 ([] : List (S28)) 0)) else (none))) else (none))))) else (none)) else (none))))) = some r := H
  have A3 := Aside0.mk A30
  clear A30
  replace H := Option.bind_eq_some_iff.mp H
  obtain ⟨⟨t362, t365⟩, A40, H⟩ := H
  replace H : (if (t362.length : Int) = 0 then ((payrolllaw44_awake.f k).bind fun t366 => (some t366)) else ((paygen_Mod.f a1 (t362.length : Int)).bind fun t367 => (if 0 ≤ t367 then (if t367 < (t362.length : Int) then ((payrollref35_Undo.f k t362 ((rd_T28 t362 t367).f0) 50).bind fun bt369 => ((payrolllaw44_wages.f k).bind fun t373 => ((some (([] : List (S28)) : List (S28))).bind fun y376 => (if y376.length + t362.length < 2513169434916 then ((some (y376 ++ t362 : List (S28))).bind fun y379 => (if y379.length + bt369.1.length < 2513169434916 then ((ledger_Entries.f k t373 (y379 ++ bt369.1)).bind fun bt385 => (payrolllaw44_LedgerCancels.l0 k t362 ((rd_T28 t362 t367).f0) bt369.2 bt385.1 bt385.2 ([] : List (S28)) 0)) else (none))) else (none))))) else (none)) else (none)))) = some r := H
  have A4 := Aside0.mk A40
  clear A40
  by_cases c5 : (t362.length : Int) = 0
  · rw [if_pos c5] at H
    have c5b0 : ((t362.length : Int) == 0) = true := beq_iff_eq.mpr c5
    have c5b1 : ((t362.length : Int) != 0) = false := bne_eq_false_iff_eq.mpr c5
    clear c5
    replace H := Option.bind_eq_some_iff.mp H
    obtain ⟨t366, A60, H⟩ := H
    replace H : (some t366) = some r := H
    have A6 := Aside0.mk A60
    clear A60
    obtain rfl := Option.some.inj H
    go_enter Try.func7, Try.ntmps7
    go_wp2_with (first | ((with_reducible refine gate_callee (f := 10) rfl ?_); refine goesL_ (some 20) rfl rfl Try.func10 (by kernel_rfl) rfl #[.slice A0 l0.length c0] rfl (by (try simp only [List.map_toArray, List.map_cons, List.map_nil]); first | done | rfl | (simp only [List.length_drop, List.length_take]; rfl)) ?_; (with_reducible refine (paygen_New.calls _ _ l0 t359 t360 w _ ?side1 ?side2 ?side3 A3.out).mono ?_); (case side1 => repeat (first | (with_reducible first | exact HB.out | apply below_alloc | apply pw_below_drewN | apply below_drew1) | exact HB.out)); (case side2 => exact HR0.out); (case side3 => exact HC0.out); rintro e w7 ⟨g361, rfl, hi, hb, hb2⟩; refine ⟨_, rfl, ?_⟩; have n0_ := Aside0.mk (hb); have n1_ := Aside0.mk (hi); clear HB; have HB := n0_; have HI361 := n1_; clear n0_ n1_; (try clear hb); (try clear hb2); (try clear hk); (try clear hi)) | ((with_reducible refine gate_callee (f := 11) rfl ?_); refine goesL_ (some 21) rfl rfl Try.func11 (by kernel_rfl) rfl #[.pointer (some ⟨g361, 0, none⟩), .int .i64 5] rfl (by (try simp only [List.map_toArray, List.map_cons, List.map_nil]); first | done | rfl | (simp only [List.length_drop, List.length_take]; rfl)) ?_; (with_reducible refine (paygen_Deck_Book.calls k g361 t359 t360 5 t362 t365 w _ ?side1 ?side2 A4.out).mono ?_); (case side1 => repeat (first | (with_reducible first | exact HI361.out | apply IsS59.alloc | apply IsS59.drewN | apply IsS59.drew | apply IsS59.set_1) | exact HI361.out)); (case side2 => repeat (first | (with_reducible first | exact HB.out | apply below_alloc | apply pw_below_drewN | apply below_drew1 | refine below_set ?_ (IsS59.ge HI361.out)) | exact HB.out)); rintro e w8 ⟨v363, rfl, ho0, hi, hb, hk⟩; refine ⟨_, rfl, ?_⟩; have n0_ := Aside0.mk (Kd.R_lower ho0 (below_size (by repeat (first | (with_reducible first | exact HB.out | apply below_alloc | apply pw_below_drewN | apply below_drew1 | refine below_set ?_ (IsS59.ge HI361.out)) | exact HB.out)))); have n1_ := Aside0.mk (hb); have n2_ := Aside0.mk (hi); clear HB; clear HI361; have HO364 := n0_; have HB := n1_; have HI361 := n2_; clear n0_ n1_ n2_; (try clear hb); (try clear hb2); (try clear hk); (try clear hi); (try clear ho0); obtain ⟨Ao9, co9, eo9⟩ := Kd.R_slice HO364.out; subst eo9) | ((with_reducible refine gate_callee (f := 9) rfl ?_); refine goesL_ (some 25) rfl rfl Try.func9 (by kernel_rfl) rfl #[] rfl (by (try simp only [List.map_toArray, List.map_cons, List.map_nil]); first | done | rfl | (simp only [List.length_drop, List.length_take]; rfl)) ?_; (with_reducible refine (payrolllaw44_awake.calls k  t366 _ A6.out).mono ?_); rintro e w10 ⟨rfl, hb⟩; refine ⟨_, rfl, ?_⟩; have n0_ := Aside0.mk (Kd.R_below (by (with_reducible repeat (first | apply Kd.R_alloc | apply Kd.R_drewN | apply Kd.R_drew)); exact HO364.out) hb); have n1_ := Aside0.mk (IsS59.below (by repeat (first | (with_reducible first | exact HI361.out | apply IsS59.alloc | apply IsS59.drewN | apply IsS59.drew | apply IsS59.set_1) | exact HI361.out)) hb); have n2_ := Aside0.mk (below_step (by repeat (first | (with_reducible first | exact HB.out | apply below_alloc | apply pw_below_drewN | apply below_drew1 | refine below_set ?_ (IsS59.ge HI361.out)) | exact HB.out)) hb); clear HO364; clear HI361; clear HB; have HO364 := n0_; have HI361 := n1_; have HB := n2_; clear n0_ n1_ n2_; (try clear hb); (try clear hb2); (try clear hk); (try clear hi)))
    go_ret
    exact ⟨by first | rfl | (simp [errW_none, errW_some] <;> rfl) | (simp [*, errW_none, errW_some] <;> rfl), by repeat (first | (with_reducible first | exact HB.out | apply below_alloc | apply pw_below_drewN | apply below_drew1 | refine below_set ?_ (IsS59.ge HI361.out)) | exact HB.out)⟩
  · rw [if_neg c5] at H
    have c5b0 : ((t362.length : Int) == 0) = false := beq_eq_false_iff_ne.mpr c5
    have c5b1 : ((t362.length : Int) != 0) = true := bne_iff_ne.mpr c5
    have c5b2 : ¬ (t362 = []) := fun h_ => c5 (by rw [h_]; rfl)
    replace H := Option.bind_eq_some_iff.mp H
    obtain ⟨t367, A110, H⟩ := H
    replace H : (if 0 ≤ t367 then (if t367 < (t362.length : Int) then ((payrollref35_Undo.f k t362 ((rd_T28 t362 t367).f0) 50).bind fun bt369 => ((payrolllaw44_wages.f k).bind fun t373 => ((some (([] : List (S28)) : List (S28))).bind fun y376 => (if y376.length + t362.length < 2513169434916 then ((some (y376 ++ t362 : List (S28))).bind fun y379 => (if y379.length + bt369.1.length < 2513169434916 then ((ledger_Entries.f k t373 (y379 ++ bt369.1)).bind fun bt385 => (payrolllaw44_LedgerCancels.l0 k t362 ((rd_T28 t362 t367).f0) bt369.2 bt385.1 bt385.2 ([] : List (S28)) 0)) else (none))) else (none))))) else (none)) else (none)) = some r := H
    have A11 := Aside0.mk A110
    clear A110
    by_cases c12 : 0 ≤ t367
    · rw [if_pos c12] at H
      have c12b0 : decide (0 ≤ t367) = true := decide_eq_true c12
      clear c12
      by_cases c13 : t367 < (t362.length : Int)
      · rw [if_pos c13] at H
        have c13b0 : decide (t367 < (t362.length : Int)) = true := decide_eq_true c13
        clear c13
        replace H := Option.bind_eq_some_iff.mp H
        obtain ⟨⟨t369, t370⟩, A140, H⟩ := H
        replace H : ((payrolllaw44_wages.f k).bind fun t373 => ((some (([] : List (S28)) : List (S28))).bind fun y376 => (if y376.length + t362.length < 2513169434916 then ((some (y376 ++ t362 : List (S28))).bind fun y379 => (if y379.length + t369.length < 2513169434916 then ((ledger_Entries.f k t373 (y379 ++ t369)).bind fun bt385 => (payrolllaw44_LedgerCancels.l0 k t362 ((rd_T28 t362 t367).f0) t370 bt385.1 bt385.2 ([] : List (S28)) 0)) else (none))) else (none)))) = some r := H
        have A14 := Aside0.mk A140
        clear A140
        replace H := Option.bind_eq_some_iff.mp H
        obtain ⟨t373, A150, H⟩ := H
        replace H : ((some (([] : List (S28)) : List (S28))).bind fun y376 => (if y376.length + t362.length < 2513169434916 then ((some (y376 ++ t362 : List (S28))).bind fun y379 => (if y379.length + t369.length < 2513169434916 then ((ledger_Entries.f k t373 (y379 ++ t369)).bind fun bt385 => (payrolllaw44_LedgerCancels.l0 k t362 ((rd_T28 t362 t367).f0) t370 bt385.1 bt385.2 ([] : List (S28)) 0)) else (none))) else (none))) = some r := H
        have A15 := Aside0.mk A150
        clear A150
        obtain ⟨y376, hy376⟩ : ∃ y_ : List (S28), y_ = (([] : List (S28))) := ⟨_, rfl⟩
        replace H : (if y376.length + t362.length < 2513169434916 then ((some (y376 ++ t362 : List (S28))).bind fun y379 => (if y379.length + t369.length < 2513169434916 then ((ledger_Entries.f k t373 (y379 ++ t369)).bind fun bt385 => (payrolllaw44_LedgerCancels.l0 k t362 ((rd_T28 t362 t367).f0) t370 bt385.1 bt385.2 ([] : List (S28)) 0)) else (none))) else (none)) = some r := by first | (rw [hy376]; with_reducible exact H) | (have H2_ := (Option.bind_some _ _).symm.trans H; rw [hy376]; with_reducible exact H2_) | (have H2_ := (Option.bind_some _ _).symm.trans H; with_reducible exact H2_) | with_reducible exact H | (rw [hy376]; exact H) | exact H
        have Ny376 := Aside0.mk hy376
        clear hy376
        by_cases c16 : y376.length + t362.length < 2513169434916
        · rw [if_pos c16] at H
          have LMc16 := Aside0.mk c16
          clear c16
          obtain ⟨y379, hy379⟩ : ∃ y_ : List (S28), y_ = (y376 ++ t362) := ⟨_, rfl⟩
          replace H : (if y379.length + t369.length < 2513169434916 then ((ledger_Entries.f k t373 (y379 ++ t369)).bind fun bt385 => (payrolllaw44_LedgerCancels.l0 k t362 ((rd_T28 t362 t367).f0) t370 bt385.1 bt385.2 ([] : List (S28)) 0)) else (none)) = some r := by first | (rw [hy379]; with_reducible exact H) | (have H2_ := (Option.bind_some _ _).symm.trans H; rw [hy379]; with_reducible exact H2_) | (have H2_ := (Option.bind_some _ _).symm.trans H; with_reducible exact H2_) | with_reducible exact H | (rw [hy379]; exact H) | exact H
          have Ny379 := Aside0.mk hy379
          clear hy379
          by_cases c17 : y379.length + t369.length < 2513169434916
          · rw [if_pos c17] at H
            have LMc17 := Aside0.mk c17
            clear c17
            obtain ⟨y382, hy382⟩ : ∃ y_ : List (S28), y_ = (y379 ++ t369) := ⟨_, rfl⟩
            replace H : ((ledger_Entries.f k t373 y382).bind fun bt385 => (payrolllaw44_LedgerCancels.l0 k t362 ((rd_T28 t362 t367).f0) t370 bt385.1 bt385.2 ([] : List (S28)) 0)) = some r := by first | (rw [hy382]; with_reducible exact H) | (have H2_ := (Option.bind_some _ _).symm.trans H; rw [hy382]; with_reducible exact H2_) | (have H2_ := (Option.bind_some _ _).symm.trans H; with_reducible exact H2_) | with_reducible exact H | (rw [hy382]; exact H) | exact H
            have Ny382 := Aside0.mk hy382
            clear hy382
            replace H := Option.bind_eq_some_iff.mp H
            obtain ⟨⟨t385, t386⟩, A180, H⟩ := H
            replace H : (payrolllaw44_LedgerCancels.l0 k t362 ((rd_T28 t362 t367).f0) t370 t385 t386 ([] : List (S28)) 0) = some r := H
            have A18 := Aside0.mk A180
            clear A180
            have H' := Aside0.mk H
            clear H
            go_enter Try.func7, Try.ntmps7
            go_wp2_with (first | ((with_reducible refine gate_callee (f := 10) rfl ?_); refine goesL_ (some 20) rfl rfl Try.func10 (by kernel_rfl) rfl #[.slice A0 l0.length c0] rfl (by (try simp only [List.map_toArray, List.map_cons, List.map_nil]); first | done | rfl | (simp only [List.length_drop, List.length_take]; rfl)) ?_; (with_reducible refine (paygen_New.calls _ _ l0 t359 t360 w _ ?side1 ?side2 ?side3 A3.out).mono ?_); (case side1 => repeat (first | (with_reducible first | exact HB.out | apply below_alloc | apply pw_below_drewN | apply below_drew1) | exact HB.out)); (case side2 => exact HR0.out); (case side3 => exact HC0.out); rintro e w19 ⟨g361, rfl, hi, hb, hb2⟩; refine ⟨_, rfl, ?_⟩; have n0_ := Aside0.mk (hb); have n1_ := Aside0.mk (hi); clear HB; have HB := n0_; have HI361 := n1_; clear n0_ n1_; (try clear hb); (try clear hb2); (try clear hk); (try clear hi)) | ((with_reducible refine gate_callee (f := 11) rfl ?_); refine goesL_ (some 21) rfl rfl Try.func11 (by kernel_rfl) rfl #[.pointer (some ⟨g361, 0, none⟩), .int .i64 5] rfl (by (try simp only [List.map_toArray, List.map_cons, List.map_nil]); first | done | rfl | (simp only [List.length_drop, List.length_take]; rfl)) ?_; (with_reducible refine (paygen_Deck_Book.calls k g361 t359 t360 5 t362 t365 w _ ?side1 ?side2 A4.out).mono ?_); (case side1 => repeat (first | (with_reducible first | exact HI361.out | apply IsS59.alloc | apply IsS59.drewN | apply IsS59.drew | apply IsS59.set_1) | exact HI361.out)); (case side2 => repeat (first | (with_reducible first | exact HB.out | apply below_alloc | apply pw_below_drewN | apply below_drew1 | refine below_set ?_ (IsS59.ge HI361.out)) | exact HB.out)); rintro e w20 ⟨v363, rfl, ho0, hi, hb, hk⟩; refine ⟨_, rfl, ?_⟩; have n0_ := Aside0.mk (Kd.R_lower ho0 (below_size (by repeat (first | (with_reducible first | exact HB.out | apply below_alloc | apply pw_below_drewN | apply below_drew1 | refine below_set ?_ (IsS59.ge HI361.out)) | exact HB.out)))); have n1_ := Aside0.mk (hb); have n2_ := Aside0.mk (hi); clear HB; clear HI361; have HO364 := n0_; have HB := n1_; have HI361 := n2_; clear n0_ n1_ n2_; (try clear hb); (try clear hb2); (try clear hk); (try clear hi); (try clear ho0); obtain ⟨Ao21, co21, eo21⟩ := Kd.R_slice HO364.out; subst eo21) | ((with_reducible refine gate_callee (f := 17) rfl ?_); refine goesL_ (some 30) rfl rfl Try.func17 (by kernel_rfl) rfl #[.int .i64 a1, .int .i64 (t362.length : Int)] rfl (by (try simp only [List.map_toArray, List.map_cons, List.map_nil]); first | done | rfl | (simp only [List.length_drop, List.length_take]; rfl)) ?_; (with_reducible refine (paygen_Mod.calls a1 (t362.length : Int) t367 _ A11.out).mono ?_); rintro e w' ⟨rfl, ⟨nd, rfl⟩⟩; refine ⟨_, rfl, ?_⟩; have p368 : 0 ≤ (t367 : Int) := of_decide_eq_true (by first | (with_reducible assumption) | assumption); have q368 : t367 < (t362.length : Int) := of_decide_eq_true (by first | (with_reducible assumption) | assumption); obtain ⟨ad368, e368, hx368_0, hx368_1, hx368_2, hx368_3, hx368_4, hx368_5⟩ := at_T28 (Kd.R_reads' HO364.out).2.2 t367 p368 q368; cases e368; replace p368 := eq_true p368; replace q368 := eq_true q368) | ((with_reducible refine gate_callee (f := 26) rfl ?_); refine goesL_ (some 37) rfl rfl Try.func26 (by kernel_rfl) rfl #[.slice (some ad368) t362.length co21, .int .i64 ((rd_T28 t362 t367).f0), .int .i64 50] rfl (by (try simp only [List.map_toArray, List.map_cons, List.map_nil]); first | done | rfl | (simp only [List.length_drop, List.length_take]; rfl)) ?_; (with_reducible refine (payrollref35_Undo.calls k _ _ t362 ((rd_T28 t362 t367).f0) 50 t369 t370 _ ?side1 ?side2 A14.out).mono ?_); (case side1 => repeat (first | exact (Kd.R_reads' HO364.out).2.2 | (with_reducible refine Kd.C_alloc ?_ _) | (with_reducible refine Kd.C_drewN ?_ _) | (with_reducible refine Kd.C_drew ?_))); (case side2 => exact (Kd.R_reads' HO364.out).2.1); rintro e w22 ⟨v371, rfl, ho0, hb⟩; refine ⟨_, rfl, ?_⟩; have n0_ := Aside0.mk (Kd.R_elder' (by (with_reducible repeat (first | apply Kd.R_alloc | apply Kd.R_drewN | apply Kd.R_drew)); exact HO364.out) (Kd.R_base ho0) hb); have n1_ := Aside0.mk (Kd.R_lower (Kd.R_new' ho0 (Kd.R_lt (by (with_reducible repeat (first | apply Kd.R_alloc | apply Kd.R_drewN | apply Kd.R_drew)); exact HO364.out))) (below_size (by repeat (first | (with_reducible first | exact HB.out | apply below_alloc | apply pw_below_drewN | apply below_drew1 | refine below_set ?_ (IsS59.ge HI361.out)) | exact HB.out)))); have n2_ := Aside0.mk (IsS59.below (by repeat (first | (with_reducible first | exact HI361.out | apply IsS59.alloc | apply IsS59.drewN | apply IsS59.drew | apply IsS59.set_1) | exact HI361.out)) hb); have n3_ := Aside0.mk (below_step (by repeat (first | (with_reducible first | exact HB.out | apply below_alloc | apply pw_below_drewN | apply below_drew1 | refine below_set ?_ (IsS59.ge HI361.out)) | exact HB.out)) hb); clear HO364; clear HI361; clear HB; have HO364 := n0_; have HO372 := n1_; have HI361 := n2_; have HB := n3_; clear n0_ n1_ n2_ n3_; (try clear hb); (try clear hb2); (try clear hk); (try clear hi); (try clear ho0)) | ((with_reducible refine gate_callee (f := 13) rfl ?_); refine goesL_ (some 41) rfl rfl Try.func13 (by kernel_rfl) rfl #[] rfl (by (try simp only [List.map_toArray, List.map_cons, List.map_nil]); first | done | rfl | (simp only [List.length_drop, List.length_take]; rfl)) ?_; (with_reducible refine (payrolllaw44_wages.calls k  t373 _ A15.out).mono ?_); rintro e w23 ⟨v374, rfl, ho0, hb⟩; refine ⟨_, rfl, ?_⟩; have n0_ := Aside0.mk (Kd.R_below (by (with_reducible repeat (first | apply Kd.R_alloc | apply Kd.R_drewN | apply Kd.R_drew)); exact HO364.out) hb); have n1_ := Aside0.mk (Kd.R_below (by (with_reducible repeat (first | apply Kd.R_alloc | apply Kd.R_drewN | apply Kd.R_drew)); exact HO372.out) hb); have n2_ := Aside0.mk (Kd.R_lower ho0 (below_size (by repeat (first | (with_reducible first | exact HB.out | apply below_alloc | apply pw_below_drewN | apply below_drew1 | refine below_set ?_ (IsS59.ge HI361.out)) | exact HB.out)))); have n3_ := Aside0.mk (IsS59.below (by repeat (first | (with_reducible first | exact HI361.out | apply IsS59.alloc | apply IsS59.drewN | apply IsS59.drew | apply IsS59.set_1) | exact HI361.out)) hb); have n4_ := Aside0.mk (below_step (by repeat (first | (with_reducible first | exact HB.out | apply below_alloc | apply pw_below_drewN | apply below_drew1 | refine below_set ?_ (IsS59.ge HI361.out)) | exact HB.out)) hb); clear HO364; clear HO372; clear HI361; clear HB; have HO364 := n0_; have HO372 := n1_; have HO375 := n2_; have HI361 := n3_; have HB := n4_; clear n0_ n1_ n2_ n3_ n4_; (try clear hb); (try clear hb2); (try clear hk); (try clear hi); (try clear ho0)) | ((with_reducible refine gate_dst (N := 42) rfl ?_); refine Kd.R_lit k28 _ 28 ?hg (N := 42) ?hd (xs := ([] : List (S28))) (inner := []) (ok := fun _ => True) (okp := fun _ => True) ?hr ?hp (fun _ hk => hk) trivial (Below.refl _ _) (Nat.le_refl _) (by simp) ?_; (case hd => rfl); (case hg => rfl); (case hr => first | (go_simp; done) | (go_simp; rfl)); (case hp => exact (Reps.none _ _)); intro v377 w24 ho25 hb hg_ hnew_; clear hg_ hnew_; (first | rw [← Ny376.out] at ho25 | (simp only [Int.reduceToNat] at ho25; rw [← Ny376.out] at ho25)); have n0_ := Aside0.mk (Kd.R_elder' (by (with_reducible repeat (first | apply Kd.R_alloc | apply Kd.R_drewN | apply Kd.R_drew)); exact HO364.out) (Kd.R_base ho25) hb); have n1_ := Aside0.mk (Kd.R_elder' (by (with_reducible repeat (first | apply Kd.R_alloc | apply Kd.R_drewN | apply Kd.R_drew)); exact HO372.out) (Kd.R_base ho25) hb); have n2_ := Aside0.mk (Kd.R_below (by (with_reducible repeat (first | apply Kd.R_alloc | apply Kd.R_drewN | apply Kd.R_drew)); exact HO375.out) hb); have n3_ := Aside0.mk (Kd.R_lower (Kd.R_new' (Kd.R_new' ho25 (Kd.R_lt (by (with_reducible repeat (first | apply Kd.R_alloc | apply Kd.R_drewN | apply Kd.R_drew)); exact HO364.out))) (Kd.R_lt (by (with_reducible repeat (first | apply Kd.R_alloc | apply Kd.R_drewN | apply Kd.R_drew)); exact HO372.out))) (below_size (by repeat (first | (with_reducible first | exact HB.out | apply below_alloc | apply pw_below_drewN | apply below_drew1 | refine below_set ?_ (IsS59.ge HI361.out)) | exact HB.out)))); have n4_ := Aside0.mk (IsS59.below (by repeat (first | (with_reducible first | exact HI361.out | apply IsS59.alloc | apply IsS59.drewN | apply IsS59.drew | apply IsS59.set_1) | exact HI361.out)) hb); have n5_ := Aside0.mk (below_step (by repeat (first | (with_reducible first | exact HB.out | apply below_alloc | apply pw_below_drewN | apply below_drew1 | refine below_set ?_ (IsS59.ge HI361.out)) | exact HB.out)) hb); clear HO364; clear HO372; clear HO375; clear HI361; clear HB; have HO364 := n0_; have HO372 := n1_; have HO375 := n2_; have HO378 := n3_; have HI361 := n4_; have HB := n5_; clear n0_ n1_ n2_ n3_ n4_ n5_; clear hb ho25) | ((with_reducible refine gate_builtin (b := .append) (xs := #[.tmp 42, .tmp 43]) rfl ?_); at_builtin; refine Kd.R_append_rows k28 (w0 := w) w.heap.size rfl (.tmp 42) (.tmp 43) 23 28 (.agg #[(.int .i64 0), (.int .i64 0), (.int .i64 0), (.int .i64 0), (.string ⟨#[]⟩), (.int .i64 0)]) 56 rfl Try.underlying23 info28 rfl (by decide) (by omega) v377 y376 t362 _ _ _ (fun k_ => some k_ ≠ (.slice (some ad368) t362.length co21 : Value).ownBlock ∧ some k_ ≠ (v371 : Value).ownBlock) (fun _ => False) rfl rfl ?aO ?aR (fun _ _ h => h) (fun _ h => h.elim) ?aF ?aB ?aS ?aL ?_; (case aR => repeat (first | exact (Kd.R_reads' HO364.out).2.2 | (with_reducible refine Kd.C_alloc ?_ _) | (with_reducible refine Kd.C_drewN ?_ _) | (with_reducible refine Kd.C_drew ?_))); (case aB => exact (by repeat (first | (with_reducible first | exact HB.out | apply below_alloc | apply pw_below_drewN | apply below_drew1 | refine below_set ?_ (IsS59.ge HI361.out)) | exact HB.out))); (case aF => exact (fun k_ hk => ⟨Kd.fresh' (Kd.R_lt (by (with_reducible repeat (first | apply Kd.R_alloc | apply Kd.R_drewN | apply Kd.R_drew)); exact HO364.out)) k_ hk, Kd.fresh' (Kd.R_lt (by (with_reducible repeat (first | apply Kd.R_alloc | apply Kd.R_drewN | apply Kd.R_drew)); exact HO372.out)) k_ hk⟩)); (case aO => exact (by (with_reducible repeat (first | apply Kd.R_alloc | apply Kd.R_drewN | apply Kd.R_drew)); exact Kd.R_mono HO378.out (fun _ hk => ⟨hk.1.2, hk.2⟩))); (case aS => exact (below_size (by repeat (first | (with_reducible first | exact HB.out | apply below_alloc | apply pw_below_drewN | apply below_drew1 | refine below_set ?_ (IsS59.ge HI361.out)) | exact HB.out)))); (case aL => have := LMc16.out; omega); intro v380 w26 ho hb hg hat; rw [← Ny379.out] at ho; have n0_ := Aside0.mk (IsS59.grown (by repeat (first | (with_reducible first | exact HI361.out | apply IsS59.alloc | apply IsS59.drewN | apply IsS59.drew | apply IsS59.set_1) | exact HI361.out)) hg (IsS59.own_ne HI361.out HO378.out (by decide))); have n1_ := Aside0.mk (Kd.R_after (ok := (fun k_ => some k_ ≠ (v371 : Value).ownBlock)) (by (with_reducible repeat (first | apply Kd.R_alloc | apply Kd.R_drewN | apply Kd.R_drew)); exact Kd.R_mono HO364.out (fun _ hk => ⟨hk.1.2, hk.2⟩)) hg hat); have n2_ := Aside0.mk (Kd.R_after (ok := (fun k_ => some k_ ≠ (.slice (some ad368) t362.length co21 : Value).ownBlock)) (by (with_reducible repeat (first | apply Kd.R_alloc | apply Kd.R_drewN | apply Kd.R_drew)); exact Kd.R_mono HO372.out (fun _ hk => ⟨hk.1.2, hk.2⟩)) hg hat); have n3_ := Aside0.mk (Kd.R_over' (by (with_reducible repeat (first | apply Kd.R_alloc | apply Kd.R_drewN | apply Kd.R_drew)); exact HO375.out) (Kd.R_typed (by (with_reducible repeat (first | apply Kd.R_alloc | apply Kd.R_drewN | apply Kd.R_drew)); exact HO378.out)) (by decide) hg); have n4_ := Aside0.mk (hb); have n5_ := Aside0.mk (ho); clear HI361; clear HO364; clear HO372; clear HO375; clear HB; clear HO378; have HI361 := n0_; have HO364 := n1_; have HO372 := n2_; have HO375 := n3_; have HB := n4_; have HO381 := n5_; clear n0_ n1_ n2_ n3_ n4_ n5_; clear ho hb hg hat; obtain ⟨Ao28, co28, eo28⟩ := Kd.R_slice HO372.out; subst eo28) | ((with_reducible refine gate_builtin (b := .append) (xs := #[.tmp 44, .tmp 45]) rfl ?_); at_builtin; refine Kd.R_append_rows k28 (w0 := w) w.heap.size rfl (.tmp 44) (.tmp 45) 23 28 (.agg #[(.int .i64 0), (.int .i64 0), (.int .i64 0), (.int .i64 0), (.string ⟨#[]⟩), (.int .i64 0)]) 56 rfl Try.underlying23 info28 rfl (by decide) (by omega) v380 y379 t369 _ _ _ (fun k_ => some k_ ≠ (.slice (some ad368) t362.length co21 : Value).ownBlock ∧ some k_ ≠ (.slice Ao28 t369.length co28 : Value).ownBlock) (fun _ => False) rfl rfl ?aO ?aR (fun _ _ h => h) (fun _ h => h.elim) ?aF ?aB ?aS ?aL ?_; (case aR => repeat (first | exact (Kd.R_reads' HO372.out).2.2 | (with_reducible refine Kd.C_alloc ?_ _) | (with_reducible refine Kd.C_drewN ?_ _) | (with_reducible refine Kd.C_drew ?_))); (case aB => exact (by repeat (first | (with_reducible first | exact HB.out | apply below_alloc | apply pw_below_drewN | apply below_drew1 | refine below_set ?_ (IsS59.ge HI361.out)) | exact HB.out))); (case aF => exact (fun k_ hk => ⟨Kd.fresh' (Kd.R_lt (by (with_reducible repeat (first | apply Kd.R_alloc | apply Kd.R_drewN | apply Kd.R_drew)); exact HO364.out)) k_ hk, Kd.fresh' (Kd.R_lt (by (with_reducible repeat (first | apply Kd.R_alloc | apply Kd.R_drewN | apply Kd.R_drew)); exact HO372.out)) k_ hk⟩)); (case aO => exact (by (with_reducible repeat (first | apply Kd.R_alloc | apply Kd.R_drewN | apply Kd.R_drew)); exact HO381.out)); (case aS => exact (below_size (by repeat (first | (with_reducible first | exact HB.out | apply below_alloc | apply pw_below_drewN | apply below_drew1 | refine below_set ?_ (IsS59.ge HI361.out)) | exact HB.out)))); (case aL => have := LMc17.out; omega); intro v383 w27 ho hb hg hat; rw [← Ny382.out] at ho; have n0_ := Aside0.mk (IsS59.grown (by repeat (first | (with_reducible first | exact HI361.out | apply IsS59.alloc | apply IsS59.drewN | apply IsS59.drew | apply IsS59.set_1) | exact HI361.out)) hg (IsS59.own_ne HI361.out HO381.out (by decide))); have n1_ := Aside0.mk (Kd.R_after (ok := (fun k_ => some k_ ≠ (.slice Ao28 t369.length co28 : Value).ownBlock)) (by (with_reducible repeat (first | apply Kd.R_alloc | apply Kd.R_drewN | apply Kd.R_drew)); exact HO364.out) hg hat); have n2_ := Aside0.mk (Kd.R_after (ok := (fun k_ => some k_ ≠ (.slice (some ad368) t362.length co21 : Value).ownBlock)) (by (with_reducible repeat (first | apply Kd.R_alloc | apply Kd.R_drewN | apply Kd.R_drew)); exact HO372.out) hg hat); have n3_ := Aside0.mk (Kd.R_over' (by (with_reducible repeat (first | apply Kd.R_alloc | apply Kd.R_drewN | apply Kd.R_drew)); exact HO375.out) (Kd.R_typed (by (with_reducible repeat (first | apply Kd.R_alloc | apply Kd.R_drewN | apply Kd.R_drew)); exact HO381.out)) (by decide) hg); have n4_ := Aside0.mk (hb); have n5_ := Aside0.mk (ho); clear HI361; clear HO364; clear HO372; clear HO375; clear HB; clear HO381; have HI361 := n0_; have HO364 := n1_; have HO372 := n2_; have HO375 := n3_; have HB := n4_; have HO384 := n5_; clear n0_ n1_ n2_ n3_ n4_ n5_; clear ho hb hg hat; obtain ⟨Ao29, co29, eo29⟩ := Kd.R_slice HO375.out; subst eo29; obtain ⟨Ao30, co30, eo30⟩ := Kd.R_slice HO384.out; subst eo30) | ((with_reducible refine gate_callee (f := 12) rfl ?_); refine goesL_ (some 47) rfl rfl Try.func12 (by kernel_rfl) rfl #[.slice Ao29 t373.length co29, .slice Ao30 y382.length co30] rfl (by (try simp only [List.map_toArray, List.map_cons, List.map_nil]); first | done | rfl | (simp only [List.length_drop, List.length_take]; rfl)) ?_; (with_reducible refine (ledger_Entries.calls k _ _ t373 _ _ y382 t385 t386 _ ?side1 ?side2 ?side3 ?side4 A18.out).mono ?_); (case side1 => repeat (first | exact (Kd.R_reads' HO375.out).2.2 | (with_reducible refine Kd.C_alloc ?_ _) | (with_reducible refine Kd.C_drewN ?_ _) | (with_reducible refine Kd.C_drew ?_))); (case side2 => exact (Kd.R_reads' HO375.out).2.1); (case side3 => repeat (first | exact (Kd.R_reads' HO384.out).2.2 | (with_reducible refine Kd.C_alloc ?_ _) | (with_reducible refine Kd.C_drewN ?_ _) | (with_reducible refine Kd.C_drew ?_))); (case side4 => exact (Kd.R_reads' HO384.out).2.1); rintro e w31 ⟨v387, rfl, ho0, hb⟩; refine ⟨_, rfl, ?_⟩; have n0_ := Aside0.mk (Kd.R_below (by (with_reducible repeat (first | apply Kd.R_alloc | apply Kd.R_drewN | apply Kd.R_drew)); exact HO364.out) hb); have n1_ := Aside0.mk (Kd.R_below (by (with_reducible repeat (first | apply Kd.R_alloc | apply Kd.R_drewN | apply Kd.R_drew)); exact HO372.out) hb); have n2_ := Aside0.mk (Kd.R_below (by (with_reducible repeat (first | apply Kd.R_alloc | apply Kd.R_drewN | apply Kd.R_drew)); exact HO375.out) hb); have n3_ := Aside0.mk (Kd.R_below (by (with_reducible repeat (first | apply Kd.R_alloc | apply Kd.R_drewN | apply Kd.R_drew)); exact HO384.out) hb); have n4_ := Aside0.mk (Kd.R_lower ho0 (below_size (by repeat (first | (with_reducible first | exact HB.out | apply below_alloc | apply pw_below_drewN | apply below_drew1 | refine below_set ?_ (IsS59.ge HI361.out)) | exact HB.out)))); have n5_ := Aside0.mk (IsS59.below (by repeat (first | (with_reducible first | exact HI361.out | apply IsS59.alloc | apply IsS59.drewN | apply IsS59.drew | apply IsS59.set_1) | exact HI361.out)) hb); have n6_ := Aside0.mk (below_step (by repeat (first | (with_reducible first | exact HB.out | apply below_alloc | apply pw_below_drewN | apply below_drew1 | refine below_set ?_ (IsS59.ge HI361.out)) | exact HB.out)) hb); clear HO364; clear HO372; clear HO375; clear HO384; clear HI361; clear HB; have HO364 := n0_; have HO372 := n1_; have HO375 := n2_; have HO384 := n3_; have HO388 := n4_; have HI361 := n5_; have HB := n6_; clear n0_ n1_ n2_ n3_ n4_ n5_ n6_; (try clear hb); (try clear hb2); (try clear hk); (try clear hi); (try clear ho0)))
            go_loopg [11, 12] k (fun kq v11 v12 w' => ∃ (x11_1 : List (S28)) (x12_1 : Int), v12 = .int .i64 x12_1 ∧ Aside0 (payrolllaw44_LedgerCancels.l0 kq t362 ((rd_T28 t362 t367).f0) t370 t385 t386 x11_1 x12_1 = some r) ∧ Aside0 (kq ≤ k) ∧ Aside0 (Kd.R k28 28 w' w.heap.size (fun k_ => some k_ ≠ (v11 : Value).ownBlock) (.slice (some ad368) t362.length co21) t362) ∧ Aside0 (Kd.R k42 42 w' w.heap.size (fun _ => True) v387 t385) ∧ Aside0 (Kd.R k28 28 w' w.heap.size (fun k_ => some k_ ≠ ((.slice (some ad368) t362.length co21) : Value).ownBlock) v11 x11_1) ∧ Aside0 (Below w.heap.size w w'))
            case atStart => exact ⟨(([] : List (S28))), (0), (by first | rfl | (simp; done) | (simp [*]; done)), H', ⟨Nat.le_refl _⟩, ⟨by (with_reducible repeat (first | apply Kd.R_alloc | apply Kd.R_drewN | apply Kd.R_drew)); exact Kd.R_mono HO364.out (fun _ hk => (by simp [Value.ownBlock]))⟩, ⟨by (with_reducible repeat (first | apply Kd.R_alloc | apply Kd.R_drewN | apply Kd.R_drew)); exact HO388.out⟩, ⟨by first | exact Kd.R_nil _ _ _ _ _ | exact Kd.N_nil _ _ _ _ _ | exact Kd.V_nil _ _ _ _ _ | exact Kd.Q_nil _ _ _ _ _ | exact Kd.S_nil _ _ _ _ _⟩, ⟨by repeat (first | (with_reducible first | exact HB.out | apply below_alloc | apply pw_below_drewN | apply below_drew1 | refine below_set ?_ (IsS59.ge HI361.out)) | exact HB.out)⟩⟩
            case round =>
              clear H'
              try clear c1
              try clear c2
              try clear p2
              try clear p3
              try clear q3
              try clear hx3
              try clear c5
              try clear c5b0
              try clear c5b1
              try clear c5b2
              try clear c7
              try clear c9
              try clear c10
              try clear c11
              try clear c12
              try clear c12b0
              try clear c13
              try clear c13b0
              try clear c16
              try clear c17
              try clear c26
              try clear hx368_0
              try clear hx368_1
              try clear hx368_2
              try clear hx368_3
              try clear hx368_4
              try clear hx368_5
              try clear p368
              try clear q368
              obtain ⟨x11_1, x12_1, rfl, HA, HK1, HO_5, HO_9, HO_11, HB⟩ := hrel
              cases gk with
              | zero => exact absurd HA.out (by simp [payrolllaw44_LedgerCancels.l0])
              | succ k1 =>
                have H := HA.out
                clear HA
                simp only [payrolllaw44_LedgerCancels.l0] at H
                by_cases c32 : x12_1 < (t362.length : Int)
                · rw [if_pos c32] at H
                  have c32b0 : decide (x12_1 < (t362.length : Int)) = true := decide_eq_true c32
                  clear c32
                  by_cases c33 : 0 ≤ x12_1
                  · rw [if_pos c33] at H
                    have c33b0 : decide (0 ≤ x12_1) = true := decide_eq_true c33
                    clear c33
                    by_cases c34 : ((rd_T28 t362 x12_1).f0) = ((rd_T28 t362 t367).f0)
                    · rw [if_pos c34] at H
                      have c34b0 : (((rd_T28 t362 x12_1).f0) == ((rd_T28 t362 t367).f0)) = true := beq_iff_eq.mpr c34
                      have c34b1 : (((rd_T28 t362 x12_1).f0) != ((rd_T28 t362 t367).f0)) = false := bne_eq_false_iff_eq.mpr c34
                      clear c34
                      have H' := Aside0.mk H
                      clear H
                      have p389 : 0 ≤ (x12_1 : Int) := of_decide_eq_true (by first | (with_reducible assumption) | assumption)
                      have q389 : x12_1 < (t362.length : Int) := of_decide_eq_true (by first | (with_reducible assumption) | assumption)
                      obtain ⟨ad389, e389, hx389_0, hx389_1, hx389_2, hx389_3, hx389_4, hx389_5⟩ := at_T28 (Kd.R_reads' HO_5.out).2.2 x12_1 p389 q389
                      obtain rfl : ad368 = ad389 := (by injection e389)
                      replace p389 := eq_true p389
                      replace q389 := eq_true q389
                      go_wp2
                      go_roundg k1
                      case measure => have := HK1.out; omega
                      case rel => exact ⟨(x11_1), (wrap64 (x12_1 + 1)), (by first | rfl | (simp; done) | (simp [*]; done)), H', ⟨by have := HK1.out; omega⟩, ⟨by (with_reducible repeat (first | apply Kd.R_alloc | apply Kd.R_drewN | apply Kd.R_drew)); exact HO_5.out⟩, ⟨by (with_reducible repeat (first | apply Kd.R_alloc | apply Kd.R_drewN | apply Kd.R_drew)); exact HO_9.out⟩, ⟨by (with_reducible repeat (first | apply Kd.R_alloc | apply Kd.R_drewN | apply Kd.R_drew)); exact HO_11.out⟩, ⟨by repeat (first | (with_reducible first | exact HB.out | apply below_alloc | apply pw_below_drewN | apply below_drew1) | exact HB.out)⟩⟩
                    · rw [if_neg c34] at H
                      have c34b0 : (((rd_T28 t362 x12_1).f0) == ((rd_T28 t362 t367).f0)) = false := beq_eq_false_iff_ne.mpr c34
                      have c34b1 : (((rd_T28 t362 x12_1).f0) != ((rd_T28 t362 t367).f0)) = true := bne_iff_ne.mpr c34
                      by_cases c35 : x11_1.length < 2513169434916
                      · rw [if_pos c35] at H
                        have LMc35 := Aside0.mk c35
                        clear c35
                        obtain ⟨y391, hy391⟩ : ∃ y_ : List (S28), y_ = (x11_1 ++ [(⟨(rd_T28 t362 x12_1).f0, (rd_T28 t362 x12_1).f1, (rd_T28 t362 x12_1).f2, (⟨(rd_T28 t362 x12_1).f3.f0, (rd_T28 t362 x12_1).f3.f1, (rd_T28 t362 x12_1).f3.f2⟩ : S26)⟩ : S28)]) := ⟨_, rfl⟩
                        replace H : (payrolllaw44_LedgerCancels.l0 k1 t362 ((rd_T28 t362 t367).f0) t370 t385 t386 y391 (wrap64 (x12_1 + 1))) = some r := by first | (rw [hy391]; with_reducible exact H) | (have H2_ := (Option.bind_some _ _).symm.trans H; rw [hy391]; with_reducible exact H2_) | (have H2_ := (Option.bind_some _ _).symm.trans H; with_reducible exact H2_) | with_reducible exact H | (rw [hy391]; exact H) | exact H
                        have Ny391 := Aside0.mk hy391
                        clear hy391
                        have H' := Aside0.mk H
                        clear H
                        have p389 : 0 ≤ (x12_1 : Int) := of_decide_eq_true (by first | (with_reducible assumption) | assumption)
                        have q389 : x12_1 < (t362.length : Int) := of_decide_eq_true (by first | (with_reducible assumption) | assumption)
                        obtain ⟨ad389, e389, hx389_0, hx389_1, hx389_2, hx389_3, hx389_4, hx389_5⟩ := at_T28 (Kd.R_reads' HO_5.out).2.2 x12_1 p389 q389
                        obtain rfl : ad368 = ad389 := (by injection e389)
                        replace p389 := eq_true p389
                        replace q389 := eq_true q389
                        have p390 : 0 ≤ (x12_1 : Int) := of_decide_eq_true (by first | (with_reducible assumption) | assumption)
                        have q390 : x12_1 < (t362.length : Int) := of_decide_eq_true (by first | (with_reducible assumption) | assumption)
                        obtain ⟨ad390, e390, hx390_0, hx390_1, hx390_2, hx390_3, hx390_4, hx390_5⟩ := at_T28 (Kd.R_reads' HO_5.out).2.2 x12_1 p390 q390
                        obtain rfl : ad368 = ad390 := (by injection e390)
                        replace p390 := eq_true p390
                        replace q390 := eq_true q390
                        go_wp2_with (first | ((with_reducible refine gate_builtin (b := .append) (xs := #[.tmp 63, .tmp 68]) rfl ?_); at_builtin; refine Kd.R_append k28 (w0 := w) w.heap.size rfl (.tmp 63) (.tmp 68) 23 28 (.agg #[(.int .i64 0), (.int .i64 0), (.int .i64 0), (.int .i64 0), (.string ⟨#[]⟩), (.int .i64 0)]) 56 rfl Try.underlying23 info28 rfl (by decide) (by omega) u11 x11_1 (⟨(rd_T28 t362 x12_1).f0, (rd_T28 t362 x12_1).f1, (rd_T28 t362 x12_1).f2, (⟨(rd_T28 t362 x12_1).f3.f0, (rd_T28 t362 x12_1).f3.f1, (rd_T28 t362 x12_1).f3.f2⟩ : S26)⟩ : S28) [.int .i64 ((rd_T28 t362 x12_1).f0), .int .i64 ((rd_T28 t362 x12_1).f1), .int .i64 ((rd_T28 t362 x12_1).f2), .int .i64 ((rd_T28 t362 x12_1).f3.f0), .string ((rd_T28 t362 x12_1).f3.f1), .int .i64 ((rd_T28 t362 x12_1).f3.f2)] (fun k_ => some k_ ≠ (.slice (some ad368) t362.length co21 : Value).ownBlock) (fun _ => False) rfl rfl ?aP (fun _ hk => hk.elim) ?aF ?aO ?aB ?aS ?aL ?_; (case aP => exact k28_mkM _ _ _ (⟨(rd_T28 t362 x12_1).f0, (rd_T28 t362 x12_1).f1, (rd_T28 t362 x12_1).f2, (⟨(rd_T28 t362 x12_1).f3.f0, (rd_T28 t362 x12_1).f3.f1, (rd_T28 t362 x12_1).f3.f2⟩ : S26)⟩ : S28)); (case aB => exact (by repeat (first | (with_reducible first | exact HB.out | apply below_alloc | apply pw_below_drewN | apply below_drew1) | exact HB.out))); (case aF => exact (fun k_ hk => Kd.fresh' (Kd.R_lt (by (with_reducible repeat (first | apply Kd.R_alloc | apply Kd.R_drewN | apply Kd.R_drew)); exact HO_5.out)) k_ hk)); (case aO => exact (by (with_reducible repeat (first | apply Kd.R_alloc | apply Kd.R_drewN | apply Kd.R_drew)); exact HO_11.out)); (case aS => exact (below_size (by repeat (first | (with_reducible first | exact HB.out | apply below_alloc | apply pw_below_drewN | apply below_drew1) | exact HB.out)))); (case aL => have := LMc35.out; omega); intro v392 w36 ho hb hg hat; rw [← Ny391.out] at ho; have n0_ := Aside0.mk (Kd.R_after (ok := (fun _ => True)) (by (with_reducible repeat (first | apply Kd.R_alloc | apply Kd.R_drewN | apply Kd.R_drew)); exact Kd.R_mono HO_5.out (fun _ hk => ⟨trivial, hk⟩)) hg hat); have n1_ := Aside0.mk (Kd.R_over' (by (with_reducible repeat (first | apply Kd.R_alloc | apply Kd.R_drewN | apply Kd.R_drew)); exact HO_9.out) (Kd.R_typed (by (with_reducible repeat (first | apply Kd.R_alloc | apply Kd.R_drewN | apply Kd.R_drew)); exact HO_11.out)) (by decide) hg); have n2_ := Aside0.mk (hb); have n3_ := Aside0.mk (ho); clear HO_5; clear HO_9; clear HB; clear HO_11; have HO_5 := n0_; have HO_9 := n1_; have HB := n2_; have HO393 := n3_; clear n0_ n1_ n2_ n3_; clear ho hb hg hat))
                        go_roundg k1
                        case measure => have := HK1.out; omega
                        case rel => exact ⟨(y391), (wrap64 (x12_1 + 1)), (by first | rfl | (simp; done) | (simp [*]; done)), H', ⟨by have := HK1.out; omega⟩, ⟨by (with_reducible repeat (first | apply Kd.R_alloc | apply Kd.R_drewN | apply Kd.R_drew)); exact Kd.R_mono HO_5.out (fun _ hk => hk.2)⟩, ⟨by (with_reducible repeat (first | apply Kd.R_alloc | apply Kd.R_drewN | apply Kd.R_drew)); exact HO_9.out⟩, ⟨by (with_reducible repeat (first | apply Kd.R_alloc | apply Kd.R_drewN | apply Kd.R_drew)); exact HO393.out⟩, ⟨by repeat (first | (with_reducible first | exact HB.out | apply below_alloc | apply pw_below_drewN | apply below_drew1) | exact HB.out)⟩⟩
                      · rw [if_neg c35] at H
                        exact absurd H (by simp)
                  · rw [if_neg c33] at H
                    exact absurd H (by simp)
                · rw [if_neg c32] at H
                  have c32b0 : decide (x12_1 < (t362.length : Int)) = false := decide_eq_false c32
                  clear c32
                  replace H := Option.bind_eq_some_iff.mp H
                  obtain ⟨t394, A370, H⟩ := H
                  replace H : ((ledger_Entries.f k1 t394 x11_1).bind fun bt397 => ((ledger_Trial.f k1 t385).bind fun bt401 => ((ledger_Trial.f k1 bt397.1).bind fun bt405 => (if t370 = 0 then (if t386 = 0 then (if bt397.2 = 0 then (if bt401.2 = 0 then (if bt405.2 = 0 then ((payrollref44_Same.f k1 bt401.1 bt405.1).bind fun t409 => (if t409 = true then ((payrolllaw44_awake.f k1).bind fun t410 => (some t410)) else (none))) else (none)) else (none)) else (none)) else (none)) else (none))))) = some r := H
                  have A37 := Aside0.mk A370
                  clear A370
                  replace H := Option.bind_eq_some_iff.mp H
                  obtain ⟨⟨t397, t398⟩, A380, H⟩ := H
                  replace H : ((ledger_Trial.f k1 t385).bind fun bt401 => ((ledger_Trial.f k1 t397).bind fun bt405 => (if t370 = 0 then (if t386 = 0 then (if t398 = 0 then (if bt401.2 = 0 then (if bt405.2 = 0 then ((payrollref44_Same.f k1 bt401.1 bt405.1).bind fun t409 => (if t409 = true then ((payrolllaw44_awake.f k1).bind fun t410 => (some t410)) else (none))) else (none)) else (none)) else (none)) else (none)) else (none)))) = some r := H
                  have A38 := Aside0.mk A380
                  clear A380
                  replace H := Option.bind_eq_some_iff.mp H
                  obtain ⟨⟨t401, t402⟩, A390, H⟩ := H
                  replace H : ((ledger_Trial.f k1 t397).bind fun bt405 => (if t370 = 0 then (if t386 = 0 then (if t398 = 0 then (if t402 = 0 then (if bt405.2 = 0 then ((payrollref44_Same.f k1 t401 bt405.1).bind fun t409 => (if t409 = true then ((payrolllaw44_awake.f k1).bind fun t410 => (some t410)) else (none))) else (none)) else (none)) else (none)) else (none)) else (none))) = some r := H
                  have A39 := Aside0.mk A390
                  clear A390
                  replace H := Option.bind_eq_some_iff.mp H
                  obtain ⟨⟨t405, t406⟩, A400, H⟩ := H
                  replace H : (if t370 = 0 then (if t386 = 0 then (if t398 = 0 then (if t402 = 0 then (if t406 = 0 then ((payrollref44_Same.f k1 t401 t405).bind fun t409 => (if t409 = true then ((payrolllaw44_awake.f k1).bind fun t410 => (some t410)) else (none))) else (none)) else (none)) else (none)) else (none)) else (none)) = some r := H
                  have A40 := Aside0.mk A400
                  clear A400
                  by_cases c41 : t370 = 0
                  · rw [if_pos c41] at H
                    have c41b0 : (t370 == 0) = true := beq_iff_eq.mpr c41
                    have c41b1 : (t370 != 0) = false := bne_eq_false_iff_eq.mpr c41
                    clear c41
                    by_cases c42 : t386 = 0
                    · rw [if_pos c42] at H
                      have c42b0 : (t386 == 0) = true := beq_iff_eq.mpr c42
                      have c42b1 : (t386 != 0) = false := bne_eq_false_iff_eq.mpr c42
                      clear c42
                      by_cases c43 : t398 = 0
                      · rw [if_pos c43] at H
                        have c43b0 : (t398 == 0) = true := beq_iff_eq.mpr c43
                        have c43b1 : (t398 != 0) = false := bne_eq_false_iff_eq.mpr c43
                        clear c43
                        by_cases c44 : t402 = 0
                        · rw [if_pos c44] at H
                          have c44b0 : (t402 == 0) = true := beq_iff_eq.mpr c44
                          have c44b1 : (t402 != 0) = false := bne_eq_false_iff_eq.mpr c44
                          clear c44
                          by_cases c45 : t406 = 0
                          · rw [if_pos c45] at H
                            have c45b0 : (t406 == 0) = true := beq_iff_eq.mpr c45
                            have c45b1 : (t406 != 0) = false := bne_eq_false_iff_eq.mpr c45
                            clear c45
                            replace H := Option.bind_eq_some_iff.mp H
                            obtain ⟨t409, A460, H⟩ := H
                            replace H : (if t409 = true then ((payrolllaw44_awake.f k1).bind fun t410 => (some t410)) else (none)) = some r := H
                            have A46 := Aside0.mk A460
                            clear A460
                            by_cases c47 : t409 = true
                            · subst c47
                              have H1 : ((payrolllaw44_awake.f k1).bind fun t410 => (some t410)) = some r := by rw [if_pos rfl] at H; exact H
                              clear H
                              have H := H1
                              clear H1
                              replace H := Option.bind_eq_some_iff.mp H
                              obtain ⟨t410, A480, H⟩ := H
                              replace H : (some t410) = some r := H
                              have A48 := Aside0.mk A480
                              clear A480
                              obtain rfl := Option.some.inj H
                              go_wp2_with (first | ((with_reducible refine gate_callee (f := 13) rfl ?_); refine goesL_ (some 71) rfl rfl Try.func13 (by kernel_rfl) rfl #[] rfl (by (try simp only [List.map_toArray, List.map_cons, List.map_nil]); first | done | rfl | (simp only [List.length_drop, List.length_take]; rfl)) ?_; (with_reducible refine (payrolllaw44_wages.calls k1  t394 _ A37.out).mono ?_); rintro e w49 ⟨v395, rfl, ho0, hb⟩; refine ⟨_, rfl, ?_⟩; have n0_ := Aside0.mk (Kd.R_below (by (with_reducible repeat (first | apply Kd.R_alloc | apply Kd.R_drewN | apply Kd.R_drew)); exact HO_5.out) hb); have n1_ := Aside0.mk (Kd.R_below (by (with_reducible repeat (first | apply Kd.R_alloc | apply Kd.R_drewN | apply Kd.R_drew)); exact HO_9.out) hb); have n2_ := Aside0.mk (Kd.R_below (by (with_reducible repeat (first | apply Kd.R_alloc | apply Kd.R_drewN | apply Kd.R_drew)); exact HO_11.out) hb); have n3_ := Aside0.mk (Kd.R_lower ho0 (below_size (by repeat (first | (with_reducible first | exact HB.out | apply below_alloc | apply pw_below_drewN | apply below_drew1) | exact HB.out)))); have n4_ := Aside0.mk (below_step (by repeat (first | (with_reducible first | exact HB.out | apply below_alloc | apply pw_below_drewN | apply below_drew1) | exact HB.out)) hb); clear HO_5; clear HO_9; clear HO_11; clear HB; have HO_5 := n0_; have HO_9 := n1_; have HO_11 := n2_; have HO396 := n3_; have HB := n4_; clear n0_ n1_ n2_ n3_ n4_; (try clear hb); (try clear hb2); (try clear hk); (try clear hi); (try clear ho0); obtain ⟨Ao50, co50, eo50⟩ := Kd.R_slice HO396.out; subst eo50; obtain ⟨Ao51, co51, eo51⟩ := Kd.R_slice HO_11.out; subst eo51) | ((with_reducible refine gate_callee (f := 12) rfl ?_); refine goesL_ (some 73) rfl rfl Try.func12 (by kernel_rfl) rfl #[.slice Ao50 t394.length co50, .slice Ao51 x11_1.length co51] rfl (by (try simp only [List.map_toArray, List.map_cons, List.map_nil]); first | done | rfl | (simp only [List.length_drop, List.length_take]; rfl)) ?_; (with_reducible refine (ledger_Entries.calls k1 _ _ t394 _ _ x11_1 t397 t398 _ ?side1 ?side2 ?side3 ?side4 A38.out).mono ?_); (case side1 => repeat (first | exact (Kd.R_reads' HO396.out).2.2 | (with_reducible refine Kd.C_alloc ?_ _) | (with_reducible refine Kd.C_drewN ?_ _) | (with_reducible refine Kd.C_drew ?_))); (case side2 => exact (Kd.R_reads' HO396.out).2.1); (case side3 => repeat (first | exact (Kd.R_reads' HO_11.out).2.2 | (with_reducible refine Kd.C_alloc ?_ _) | (with_reducible refine Kd.C_drewN ?_ _) | (with_reducible refine Kd.C_drew ?_))); (case side4 => exact (Kd.R_reads' HO_11.out).2.1); rintro e w52 ⟨v399, rfl, ho0, hb⟩; refine ⟨_, rfl, ?_⟩; have n0_ := Aside0.mk (Kd.R_below (by (with_reducible repeat (first | apply Kd.R_alloc | apply Kd.R_drewN | apply Kd.R_drew)); exact HO_5.out) hb); have n1_ := Aside0.mk (Kd.R_elder' (by (with_reducible repeat (first | apply Kd.R_alloc | apply Kd.R_drewN | apply Kd.R_drew)); exact HO_9.out) (Kd.R_base ho0) hb); have n2_ := Aside0.mk (Kd.R_below (by (with_reducible repeat (first | apply Kd.R_alloc | apply Kd.R_drewN | apply Kd.R_drew)); exact HO_11.out) hb); have n3_ := Aside0.mk (Kd.R_below (by (with_reducible repeat (first | apply Kd.R_alloc | apply Kd.R_drewN | apply Kd.R_drew)); exact HO396.out) hb); have n4_ := Aside0.mk (Kd.R_lower (Kd.R_new' ho0 (Kd.R_lt (by (with_reducible repeat (first | apply Kd.R_alloc | apply Kd.R_drewN | apply Kd.R_drew)); exact HO_9.out))) (below_size (by repeat (first | (with_reducible first | exact HB.out | apply below_alloc | apply pw_below_drewN | apply below_drew1) | exact HB.out)))); have n5_ := Aside0.mk (below_step (by repeat (first | (with_reducible first | exact HB.out | apply below_alloc | apply pw_below_drewN | apply below_drew1) | exact HB.out)) hb); clear HO_5; clear HO_9; clear HO_11; clear HO396; clear HB; have HO_5 := n0_; have HO_9 := n1_; have HO_11 := n2_; have HO396 := n3_; have HO400 := n4_; have HB := n5_; clear n0_ n1_ n2_ n3_ n4_ n5_; (try clear hb); (try clear hb2); (try clear hk); (try clear hi); (try clear ho0); obtain ⟨Ao53, co53, eo53⟩ := Kd.R_slice HO_9.out; subst eo53) | ((with_reducible refine gate_callee (f := 19) rfl ?_); refine goesL_ (some 78) rfl rfl Try.func19 (by kernel_rfl) rfl #[.slice Ao53 t385.length co53] rfl (by (try simp only [List.map_toArray, List.map_cons, List.map_nil]); first | done | rfl | (simp only [List.length_drop, List.length_take]; rfl)) ?_; (with_reducible refine (ledger_Trial.calls k1 _ _ t385 t401 t402 _ ?side1 ?side2 A39.out).mono ?_); (case side1 => repeat (first | exact (Kd.R_reads' HO_9.out).2.2 | (with_reducible refine Kd.C_alloc ?_ _) | (with_reducible refine Kd.C_drewN ?_ _) | (with_reducible refine Kd.C_drew ?_))); (case side2 => exact (Kd.R_reads' HO_9.out).2.1); rintro e w54 ⟨v403, rfl, ho0, hb⟩; refine ⟨_, rfl, ?_⟩; have n0_ := Aside0.mk (Kd.R_below (by (with_reducible repeat (first | apply Kd.R_alloc | apply Kd.R_drewN | apply Kd.R_drew)); exact HO_5.out) hb); have n1_ := Aside0.mk (Kd.R_elder' (by (with_reducible repeat (first | apply Kd.R_alloc | apply Kd.R_drewN | apply Kd.R_drew)); exact HO_9.out) (Kd.R_base ho0) hb); have n2_ := Aside0.mk (Kd.R_below (by (with_reducible repeat (first | apply Kd.R_alloc | apply Kd.R_drewN | apply Kd.R_drew)); exact HO_11.out) hb); have n3_ := Aside0.mk (Kd.R_below (by (with_reducible repeat (first | apply Kd.R_alloc | apply Kd.R_drewN | apply Kd.R_drew)); exact HO396.out) hb); have n4_ := Aside0.mk (Kd.R_elder' (by (with_reducible repeat (first | apply Kd.R_alloc | apply Kd.R_drewN | apply Kd.R_drew)); exact HO400.out) (Kd.R_base ho0) hb); have n5_ := Aside0.mk (Kd.R_lower (Kd.R_new' (Kd.R_new' ho0 (Kd.R_lt (by (with_reducible repeat (first | apply Kd.R_alloc | apply Kd.R_drewN | apply Kd.R_drew)); exact HO_9.out))) (Kd.R_lt (by (with_reducible repeat (first | apply Kd.R_alloc | apply Kd.R_drewN | apply Kd.R_drew)); exact HO400.out))) (below_size (by repeat (first | (with_reducible first | exact HB.out | apply below_alloc | apply pw_below_drewN | apply below_drew1) | exact HB.out)))); have n6_ := Aside0.mk (below_step (by repeat (first | (with_reducible first | exact HB.out | apply below_alloc | apply pw_below_drewN | apply below_drew1) | exact HB.out)) hb); clear HO_5; clear HO_9; clear HO_11; clear HO396; clear HO400; clear HB; have HO_5 := n0_; have HO_9 := n1_; have HO_11 := n2_; have HO396 := n3_; have HO400 := n4_; have HO404 := n5_; have HB := n6_; clear n0_ n1_ n2_ n3_ n4_ n5_ n6_; (try clear hb); (try clear hb2); (try clear hk); (try clear hi); (try clear ho0); obtain ⟨Ao55, co55, eo55⟩ := Kd.R_slice HO400.out; subst eo55) | ((with_reducible refine gate_callee (f := 19) rfl ?_); refine goesL_ (some 83) rfl rfl Try.func19 (by kernel_rfl) rfl #[.slice Ao55 t397.length co55] rfl (by (try simp only [List.map_toArray, List.map_cons, List.map_nil]); first | done | rfl | (simp only [List.length_drop, List.length_take]; rfl)) ?_; (with_reducible refine (ledger_Trial.calls k1 _ _ t397 t405 t406 _ ?side1 ?side2 A40.out).mono ?_); (case side1 => repeat (first | exact (Kd.R_reads' HO400.out).2.2 | (with_reducible refine Kd.C_alloc ?_ _) | (with_reducible refine Kd.C_drewN ?_ _) | (with_reducible refine Kd.C_drew ?_))); (case side2 => exact (Kd.R_reads' HO400.out).2.1); rintro e w56 ⟨v407, rfl, ho0, hb⟩; refine ⟨_, rfl, ?_⟩; have n0_ := Aside0.mk (Kd.R_below (by (with_reducible repeat (first | apply Kd.R_alloc | apply Kd.R_drewN | apply Kd.R_drew)); exact HO_5.out) hb); have n1_ := Aside0.mk (Kd.R_elder' (by (with_reducible repeat (first | apply Kd.R_alloc | apply Kd.R_drewN | apply Kd.R_drew)); exact HO_9.out) (Kd.R_base ho0) hb); have n2_ := Aside0.mk (Kd.R_below (by (with_reducible repeat (first | apply Kd.R_alloc | apply Kd.R_drewN | apply Kd.R_drew)); exact HO_11.out) hb); have n3_ := Aside0.mk (Kd.R_below (by (with_reducible repeat (first | apply Kd.R_alloc | apply Kd.R_drewN | apply Kd.R_drew)); exact HO396.out) hb); have n4_ := Aside0.mk (Kd.R_elder' (by (with_reducible repeat (first | apply Kd.R_alloc | apply Kd.R_drewN | apply Kd.R_drew)); exact HO400.out) (Kd.R_base ho0) hb); have n5_ := Aside0.mk (Kd.R_elder' (by (with_reducible repeat (first | apply Kd.R_alloc | apply Kd.R_drewN | apply Kd.R_drew)); exact HO404.out) (Kd.R_base ho0) hb); have n6_ := Aside0.mk (Kd.R_lower (Kd.R_new' (Kd.R_new' (Kd.R_new' ho0 (Kd.R_lt (by (with_reducible repeat (first | apply Kd.R_alloc | apply Kd.R_drewN | apply Kd.R_drew)); exact HO_9.out))) (Kd.R_lt (by (with_reducible repeat (first | apply Kd.R_alloc | apply Kd.R_drewN | apply Kd.R_drew)); exact HO400.out))) (Kd.R_lt (by (with_reducible repeat (first | apply Kd.R_alloc | apply Kd.R_drewN | apply Kd.R_drew)); exact HO404.out))) (below_size (by repeat (first | (with_reducible first | exact HB.out | apply below_alloc | apply pw_below_drewN | apply below_drew1) | exact HB.out)))); have n7_ := Aside0.mk (below_step (by repeat (first | (with_reducible first | exact HB.out | apply below_alloc | apply pw_below_drewN | apply below_drew1) | exact HB.out)) hb); clear HO_5; clear HO_9; clear HO_11; clear HO396; clear HO400; clear HO404; clear HB; have HO_5 := n0_; have HO_9 := n1_; have HO_11 := n2_; have HO396 := n3_; have HO400 := n4_; have HO404 := n5_; have HO408 := n6_; have HB := n7_; clear n0_ n1_ n2_ n3_ n4_ n5_ n6_ n7_; (try clear hb); (try clear hb2); (try clear hk); (try clear hi); (try clear ho0); obtain ⟨Ao57, co57, eo57⟩ := Kd.R_slice HO404.out; subst eo57; obtain ⟨Ao58, co58, eo58⟩ := Kd.R_slice HO408.out; subst eo58) | (go_at_call 16; (with_reducible refine (payrollref44_Same.calls k1 _ _ t401 _ _ t405 true _ ?side1 ?side2 ?side3 ?side4 A46.out).mono ?_); (case side1 => repeat (first | exact (Kd.R_reads' HO404.out).2.2 | (with_reducible refine Kd.C_alloc ?_ _) | (with_reducible refine Kd.C_drewN ?_ _) | (with_reducible refine Kd.C_drew ?_))); (case side2 => exact (Kd.R_reads' HO404.out).2.1); (case side3 => repeat (first | exact (Kd.R_reads' HO408.out).2.2 | (with_reducible refine Kd.C_alloc ?_ _) | (with_reducible refine Kd.C_drewN ?_ _) | (with_reducible refine Kd.C_drew ?_))); (case side4 => exact (Kd.R_reads' HO408.out).2.1); rintro e w' ⟨rfl, ⟨nd, rfl⟩⟩) | (go_at_call 9; (with_reducible refine (payrolllaw44_awake.calls k1  t410 _ A48.out).mono ?_); rintro e w59 ⟨rfl, hb⟩; have n0_ := Aside0.mk (Kd.R_below (by (with_reducible repeat (first | apply Kd.R_alloc | apply Kd.R_drewN | apply Kd.R_drew)); exact HO_5.out) hb); have n1_ := Aside0.mk (Kd.R_below (by (with_reducible repeat (first | apply Kd.R_alloc | apply Kd.R_drewN | apply Kd.R_drew)); exact HO_9.out) hb); have n2_ := Aside0.mk (Kd.R_below (by (with_reducible repeat (first | apply Kd.R_alloc | apply Kd.R_drewN | apply Kd.R_drew)); exact HO_11.out) hb); have n3_ := Aside0.mk (Kd.R_below (by (with_reducible repeat (first | apply Kd.R_alloc | apply Kd.R_drewN | apply Kd.R_drew)); exact HO396.out) hb); have n4_ := Aside0.mk (Kd.R_below (by (with_reducible repeat (first | apply Kd.R_alloc | apply Kd.R_drewN | apply Kd.R_drew)); exact HO400.out) hb); have n5_ := Aside0.mk (Kd.R_below (by (with_reducible repeat (first | apply Kd.R_alloc | apply Kd.R_drewN | apply Kd.R_drew)); exact HO404.out) hb); have n6_ := Aside0.mk (Kd.R_below (by (with_reducible repeat (first | apply Kd.R_alloc | apply Kd.R_drewN | apply Kd.R_drew)); exact HO408.out) hb); have n7_ := Aside0.mk (below_step (by repeat (first | (with_reducible first | exact HB.out | apply below_alloc | apply pw_below_drewN | apply below_drew1) | exact HB.out)) hb); clear HO_5; clear HO_9; clear HO_11; clear HO396; clear HO400; clear HO404; clear HO408; clear HB; have HO_5 := n0_; have HO_9 := n1_; have HO_11 := n2_; have HO396 := n3_; have HO400 := n4_; have HO404 := n5_; have HO408 := n6_; have HB := n7_; clear n0_ n1_ n2_ n3_ n4_ n5_ n6_ n7_; (try clear hb); (try clear hb2); (try clear hk); (try clear hi)))
                              go_ret
                              exact ⟨by first | rfl | (simp [errW_none, errW_some] <;> rfl) | (simp [*, errW_none, errW_some] <;> rfl), by repeat (first | (with_reducible first | exact HB.out | apply below_alloc | apply pw_below_drewN | apply below_drew1) | exact HB.out)⟩
                            · replace c47 := Bool.eq_false_iff.mpr c47
                              subst c47
                              have H1 : (none) = some r := by rw [if_neg (show ¬ (false = true) by decide)] at H; exact H
                              clear H
                              have H := H1
                              clear H1
                              exact absurd H (by simp)
                          · rw [if_neg c45] at H
                            exact absurd H (by simp)
                        · rw [if_neg c44] at H
                          exact absurd H (by simp)
                      · rw [if_neg c43] at H
                        exact absurd H (by simp)
                    · rw [if_neg c42] at H
                      exact absurd H (by simp)
                  · rw [if_neg c41] at H
                    exact absurd H (by simp)
          · rw [if_neg c17] at H
            exact absurd H (by simp)
        · rw [if_neg c16] at H
          exact absurd H (by simp)
      · rw [if_neg c13] at H
        exact absurd H (by simp)
    · rw [if_neg c12] at H
      exact absurd H (by simp)

/-- THE ONE PURE STATEMENT of payrolllaw44_LedgerCancels: yours. -/
def payrolllaw44_LedgerCancels.Pure : Prop := ∀ (l0 : List Int) (a1 : Int), l0.length ≤ maxLen → l0.length * 8 ≤ 140737488351232 → (∀ x ∈ l0, (Lit.int .i64 x).wf = true) → (Lit.int .i64 a1).wf = true → ∃ k, payrolllaw44_LedgerCancels.f k l0 a1 = some true
theorem payrolllaw44_LedgerCancels.walk (P : payrolllaw44_LedgerCancels.Pure) (a0 : Option Addr) (len0 cap0 : Nat) (z0 : List Int) (a1 : Int) (w : World) (w0 : (a0 = none ∧ len0 = 0 ∧ cap0 = 0 ∧ z0 = []) ∨ ∃ x, a0 = some x ∧ len0 ≤ cap0 ∧ cap0 ≤ maxLen ∧ z0.length = cap0 ∧ (∀ i, i < z0.length → w.cell? (x.add i) = some (.int .i64 (z0.getD i 0))) ∧ ∀ n ∈ z0, (Lit.int .i64 n).wf = true) (y0 : len0 * 8 ≤ 140737488351232) (w1 : (Lit.int .i64 a1).wf = true) :
    Calls Try.prog 7 #[.slice a0 len0 cap0, .int .i64 a1] w fun e w' => e = .returned (.bool true) ∧ Below w.heap.size w w' := by
  obtain ⟨l0, rfl, hr0, hm0, hw0, hc0⟩ := ReadsInt.ofRowC w0
  obtain ⟨k, h⟩ := P l0 a1 hm0 y0 hw0 w1
  refine (payrolllaw44_LedgerCancels.calls k _ _ l0 a1 true w (Kd.C_of_reads (d := (0 : Int)) (h1 := fun _ => rfl) hr0) hc0 h).mono ?_
  rintro e w' ⟨rfl, hd⟩
  exact ⟨rfl, hd⟩

end Go.Proofs.Ytfakedchahildaa.Q
