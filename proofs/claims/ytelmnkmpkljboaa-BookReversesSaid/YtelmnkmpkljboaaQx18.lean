-- Printed by wip/xprint.py over the translation, with contracts proved by hand among them. Lean checks it.
import Derived.Test.YtelmnkmpkljboaaQx0
import Derived.Test.YtelmnkmpkljboaaQx3
import Derived.Test.YtelmnkmpkljboaaQx5
import Derived.Test.YtelmnkmpkljboaaQx6
import Derived.Test.YtelmnkmpkljboaaQx7
import Derived.Test.YtelmnkmpkljboaaQx9
import Derived.Test.YtelmnkmpkljboaaQx14
import Derived.Test.YtelmnkmpkljboaaQx16
namespace Go.Proofs.Ytelmnkmpkljboaa.Q
open Go.RowKit Go.Proofs.YtelmnkmpkljboaaW.PrintWords Go.Proofs.YtelmnkmpkljboaaW.PrintLast Go.Proofs.YtelmnkmpkljboaaW.PrintMore
attribute [local go_sem] max2_int min2_int max_two min_two max_three min_three max_four min_four   -- for this text's walks alone
set_option linter.unusedVariables false
set_option linter.unusedSimpArgs false

/-! ### payrolllaw35_BookReverses: function 8 -/
mutual
def payrolllaw35_BookReverses.l0 : Nat → List (S27) → Int → List (S27) → Int → Option (Bool)
  | 0, _, _, _, _ => none
  | k + 1, x5, x6, x7, x8 => if x8 < (x5.length : Int) then (if 0 ≤ x8 then (if ((rd_T27 x5 x8).f0) = x6 then (payrolllaw35_BookReverses.l0 k x5 x6 x7 (wrap64 (x8 + 1))) else (if x7.length < 2513169434916 then (payrolllaw35_BookReverses.l0 k x5 x6 (x7 ++ [(⟨(rd_T27 x5 x8).f0, (rd_T27 x5 x8).f1, (rd_T27 x5 x8).f2, (⟨(rd_T27 x5 x8).f3.f0, (rd_T27 x5 x8).f3.f1, (rd_T27 x5 x8).f3.f2⟩ : S25)⟩ : S27)]) (wrap64 (x8 + 1))) else (none))) else (none)) else ((book_Undo.f k x5 x6 100).bind fun bt464 => ((book_Add.f k x5 bt464.1).bind fun bt468 => (if bt464.2 = 0 then (if bt468.2 = 0 then (payrolllaw35_BookReverses.l1 k x7 bt468.1 1) else (none)) else (none))))
def payrolllaw35_BookReverses.l1 : Nat → List (S27) → List (S27) → Int → Option (Bool)
  | 0, _, _, _ => none
  | k + 1, x7, x11, x13 => if x13 ≤ 3 then ((book_Net.f k x11 x13).bind fun t472 => ((book_Net.f k x7 x13).bind fun t473 => (if t472 = t473 then (payrolllaw35_BookReverses.l2 k x7 x11 x13 0) else (none)))) else ((payrolllaw35_awake.f k).bind fun t481 => (some t481))
def payrolllaw35_BookReverses.l2 : Nat → List (S27) → List (S27) → Int → Int → Option (Bool)
  | 0, _, _, _, _ => none
  | k + 1, x7, x11, x13, x14 => if x14 < 3 then ((book_Result.f k x11 x13 x14).bind fun t474 => ((book_Result.f k x7 x13 x14).bind fun t477 => ((payrollref32_Same.f k t474 t477).bind fun t480 => (if t480 = true then (payrolllaw35_BookReverses.l2 k x7 x11 x13 (wrap64 (x14 + 1))) else (none))))) else (payrolllaw35_BookReverses.l1 k x7 x11 (wrap64 (x13 + 1)))
end
def payrolllaw35_BookReverses.f (k : Nat) (l0 : List Int) (a1 : Int) : Option (Bool) := (paygen_New.f l0).bind fun bt449 => ((paygen_Deck_Book.f k bt449.1 bt449.2 5).bind fun bt452 => (if (bt452.1.length : Int) = 0 then ((payrolllaw35_awake.f k).bind fun t456 => (some t456)) else ((paygen_Mod.f a1 (bt452.1.length : Int)).bind fun t457 => (if 0 ≤ t457 then (if t457 < (bt452.1.length : Int) then (payrolllaw35_BookReverses.l0 k bt452.1 ((rd_T27 bt452.1 t457).f0) ([] : List (S27)) 0) else (none)) else (none)))))
theorem payrolllaw35_BookReverses.mono_l : ∀ k, (∀ y0 y1 y2 y3, LeO (payrolllaw35_BookReverses.l0 k y0 y1 y2 y3) (payrolllaw35_BookReverses.l0 (k + 1) y0 y1 y2 y3)) ∧ (∀ y0 y1 y2, LeO (payrolllaw35_BookReverses.l1 k y0 y1 y2) (payrolllaw35_BookReverses.l1 (k + 1) y0 y1 y2)) ∧ (∀ y0 y1 y2 y3, LeO (payrolllaw35_BookReverses.l2 k y0 y1 y2 y3) (payrolllaw35_BookReverses.l2 (k + 1) y0 y1 y2 y3))
  | 0 => ⟨fun _ _ _ _ r h => by simp [payrolllaw35_BookReverses.l0] at h, fun _ _ _ r h => by simp [payrolllaw35_BookReverses.l1] at h, fun _ _ _ _ r h => by simp [payrolllaw35_BookReverses.l2] at h⟩
  | k + 1 => by
    obtain ⟨ih0, ih1, ih2⟩ := payrolllaw35_BookReverses.mono_l k
    refine ⟨?_, ?_, ?_⟩
    · intro y0 y1 y2 y3
      unfold payrolllaw35_BookReverses.l0
      repeat' first
      | (with_reducible exact ih0 _ _ _ _)
      | (with_reducible exact ih1 _ _ _)
      | (with_reducible exact ih2 _ _ _ _)
      | (with_reducible exact book_Add.mono _ _ _)
      | (with_reducible exact book_Net.mono _ _ _)
      | (with_reducible exact book_Result.mono _ _ _ _)
      | (with_reducible exact book_Undo.mono _ _ _ _)
      | (with_reducible exact paygen_Deck_Book.mono _ _ _ _)
      | (with_reducible exact payrolllaw35_awake.mono _)
      | (with_reducible exact payrollref32_Same.mono _ _ _)
      | (with_reducible exact LeO.refl _)
      | (with_reducible exact LeO.none _)
      | (with_reducible refine LeO.ite ?_ ?_)
      | (with_reducible refine LeO.bind ?_ (fun _ => ?_))
      | exact ih0 _ _ _ _
      | exact ih1 _ _ _
      | exact ih2 _ _ _ _
      | exact book_Add.mono _ _ _
      | exact book_Net.mono _ _ _
      | exact book_Result.mono _ _ _ _
      | exact book_Undo.mono _ _ _ _
      | exact paygen_Deck_Book.mono _ _ _ _
      | exact payrolllaw35_awake.mono _
      | exact payrollref32_Same.mono _ _ _
      | exact LeO.none _
      | refine LeO.ite ?_ ?_
      | refine LeO.bind ?_ (fun _ => ?_)
    · intro y0 y1 y2
      unfold payrolllaw35_BookReverses.l1
      repeat' first
      | (with_reducible exact ih0 _ _ _ _)
      | (with_reducible exact ih1 _ _ _)
      | (with_reducible exact ih2 _ _ _ _)
      | (with_reducible exact book_Add.mono _ _ _)
      | (with_reducible exact book_Net.mono _ _ _)
      | (with_reducible exact book_Result.mono _ _ _ _)
      | (with_reducible exact book_Undo.mono _ _ _ _)
      | (with_reducible exact paygen_Deck_Book.mono _ _ _ _)
      | (with_reducible exact payrolllaw35_awake.mono _)
      | (with_reducible exact payrollref32_Same.mono _ _ _)
      | (with_reducible exact LeO.refl _)
      | (with_reducible exact LeO.none _)
      | (with_reducible refine LeO.ite ?_ ?_)
      | (with_reducible refine LeO.bind ?_ (fun _ => ?_))
      | exact ih0 _ _ _ _
      | exact ih1 _ _ _
      | exact ih2 _ _ _ _
      | exact book_Add.mono _ _ _
      | exact book_Net.mono _ _ _
      | exact book_Result.mono _ _ _ _
      | exact book_Undo.mono _ _ _ _
      | exact paygen_Deck_Book.mono _ _ _ _
      | exact payrolllaw35_awake.mono _
      | exact payrollref32_Same.mono _ _ _
      | exact LeO.none _
      | refine LeO.ite ?_ ?_
      | refine LeO.bind ?_ (fun _ => ?_)
    · intro y0 y1 y2 y3
      unfold payrolllaw35_BookReverses.l2
      repeat' first
      | (with_reducible exact ih0 _ _ _ _)
      | (with_reducible exact ih1 _ _ _)
      | (with_reducible exact ih2 _ _ _ _)
      | (with_reducible exact book_Add.mono _ _ _)
      | (with_reducible exact book_Net.mono _ _ _)
      | (with_reducible exact book_Result.mono _ _ _ _)
      | (with_reducible exact book_Undo.mono _ _ _ _)
      | (with_reducible exact paygen_Deck_Book.mono _ _ _ _)
      | (with_reducible exact payrolllaw35_awake.mono _)
      | (with_reducible exact payrollref32_Same.mono _ _ _)
      | (with_reducible exact LeO.refl _)
      | (with_reducible exact LeO.none _)
      | (with_reducible refine LeO.ite ?_ ?_)
      | (with_reducible refine LeO.bind ?_ (fun _ => ?_))
      | exact ih0 _ _ _ _
      | exact ih1 _ _ _
      | exact ih2 _ _ _ _
      | exact book_Add.mono _ _ _
      | exact book_Net.mono _ _ _
      | exact book_Result.mono _ _ _ _
      | exact book_Undo.mono _ _ _ _
      | exact paygen_Deck_Book.mono _ _ _ _
      | exact payrolllaw35_awake.mono _
      | exact payrollref32_Same.mono _ _ _
      | exact LeO.none _
      | refine LeO.ite ?_ ?_
      | refine LeO.bind ?_ (fun _ => ?_)
theorem payrolllaw35_BookReverses.mono : ∀ a0 a1 k, LeO (payrolllaw35_BookReverses.f k a0 a1) (payrolllaw35_BookReverses.f (k + 1) a0 a1) := by
  intro a0 a1 k
  obtain ⟨ih0, ih1, ih2⟩ := payrolllaw35_BookReverses.mono_l k
  unfold payrolllaw35_BookReverses.f
  repeat' first
      | (with_reducible exact ih0 _ _ _ _)
      | (with_reducible exact ih1 _ _ _)
      | (with_reducible exact ih2 _ _ _ _)
      | (with_reducible exact book_Add.mono _ _ _)
      | (with_reducible exact book_Net.mono _ _ _)
      | (with_reducible exact book_Result.mono _ _ _ _)
      | (with_reducible exact book_Undo.mono _ _ _ _)
      | (with_reducible exact paygen_Deck_Book.mono _ _ _ _)
      | (with_reducible exact payrolllaw35_awake.mono _)
      | (with_reducible exact payrollref32_Same.mono _ _ _)
      | (with_reducible exact LeO.refl _)
      | (with_reducible exact LeO.none _)
      | (with_reducible refine LeO.ite ?_ ?_)
      | (with_reducible refine LeO.bind ?_ (fun _ => ?_))
      | exact ih0 _ _ _ _
      | exact ih1 _ _ _
      | exact ih2 _ _ _ _
      | exact book_Add.mono _ _ _
      | exact book_Net.mono _ _ _
      | exact book_Result.mono _ _ _ _
      | exact book_Undo.mono _ _ _ _
      | exact paygen_Deck_Book.mono _ _ _ _
      | exact payrolllaw35_awake.mono _
      | exact payrollref32_Same.mono _ _ _
      | exact LeO.none _
      | refine LeO.ite ?_ ?_
      | refine LeO.bind ?_ (fun _ => ?_)
set_option maxHeartbeats 8000000 in
set_option maxRecDepth 100000 in
theorem payrolllaw35_BookReverses.calls (k : Nat) (A0 : Option Addr) (c0 : Nat) (l0 : List Int) (a1 : Int) (r : Bool) (w : World) (hr0 : Kd.C (Kd.int .i64) w A0 l0.length l0) (hc0 : l0.length ≤ c0) (h : payrolllaw35_BookReverses.f k l0 a1 = some r) :
    Calls Try.prog 8 #[.slice A0 l0.length c0, .int .i64 a1] w fun e w' => e = .returned (.bool r) ∧ Below w.heap.size w w' := by
  have hu27 := Try.underlying27
  have HR0 := Aside0.mk hr0
  have HC0 := Aside0.mk hc0
  clear hr0 hc0
  have HB := Aside0.mk (Below.refl w.heap.size w)
  have H : ((paygen_New.f l0).bind fun bt449 => ((paygen_Deck_Book.f k bt449.1 bt449.2 5).bind fun bt452 => (if (bt452.1.length : Int) = 0 then ((payrolllaw35_awake.f k).bind fun t456 => (some t456)) else ((paygen_Mod.f a1 (bt452.1.length : Int)).bind fun t457 => (if 0 ≤ t457 then (if t457 < (bt452.1.length : Int) then (payrolllaw35_BookReverses.l0 k bt452.1 ((rd_T27 bt452.1 t457).f0) ([] : List (S27)) 0) else (none)) else (none)))))) = some r := h
  clear h
  replace H := Option.bind_eq_some_iff.mp H
  obtain ⟨⟨t449, t450⟩, A30, H⟩ := H
  replace H : ((paygen_Deck_Book.f k t449 t450 5).bind fun bt452 => (if (bt452.1.length : Int) = 0 then ((payrolllaw35_awake.f k).bind fun t456 => (some t456)) else ((paygen_Mod.f a1 (bt452.1.length : Int)).bind fun t457 => (if 0 ≤ t457 then (if t457 < (bt452.1.length : Int) then (payrolllaw35_BookReverses.l0 k bt452.1 ((rd_T27 bt452.1 t457).f0) ([] : List (S27)) 0) else (none)) else (none))))) = some r := H
  have A3 := Aside0.mk A30
  clear A30
  replace H := Option.bind_eq_some_iff.mp H
  obtain ⟨⟨t452, t455⟩, A40, H⟩ := H
  replace H : (if (t452.length : Int) = 0 then ((payrolllaw35_awake.f k).bind fun t456 => (some t456)) else ((paygen_Mod.f a1 (t452.length : Int)).bind fun t457 => (if 0 ≤ t457 then (if t457 < (t452.length : Int) then (payrolllaw35_BookReverses.l0 k t452 ((rd_T27 t452 t457).f0) ([] : List (S27)) 0) else (none)) else (none)))) = some r := H
  have A4 := Aside0.mk A40
  clear A40
  by_cases c5 : (t452.length : Int) = 0
  · rw [if_pos c5] at H
    have c5b0 : ((t452.length : Int) == 0) = true := beq_iff_eq.mpr c5
    have c5b1 : ((t452.length : Int) != 0) = false := bne_eq_false_iff_eq.mpr c5
    clear c5
    replace H := Option.bind_eq_some_iff.mp H
    obtain ⟨t456, A60, H⟩ := H
    replace H : (some t456) = some r := H
    have A6 := Aside0.mk A60
    clear A60
    obtain rfl := Option.some.inj H
    go_enter Try.func8, Try.ntmps8
    go_wp2_with (first | ((with_reducible refine gate_callee (f := 18) rfl ?_); refine goesL_ (some 16) rfl rfl Try.func18 (by kernel_rfl) rfl #[.slice A0 l0.length c0] rfl (by (try simp only [List.map_toArray, List.map_cons, List.map_nil]); first | done | rfl | (simp only [List.length_drop, List.length_take]; rfl)) ?_; (with_reducible refine (paygen_New.calls _ _ l0 t449 t450 w _ ?side1 ?side2 ?side3 A3.out).mono ?_); (case side1 => repeat (first | (with_reducible first | exact HB.out | apply below_alloc | apply pw_below_drewN | apply below_drew1) | exact HB.out)); (case side2 => exact HR0.out); (case side3 => exact HC0.out); rintro e w7 ⟨g451, rfl, hi, hb, hb2⟩; refine ⟨_, rfl, ?_⟩; have n0_ := Aside0.mk (hb); have n1_ := Aside0.mk (hi); clear HB; have HB := n0_; have HI451 := n1_; clear n0_ n1_; (try clear hb); (try clear hb2); (try clear hk); (try clear hi)) | ((with_reducible refine gate_callee (f := 19) rfl ?_); refine goesL_ (some 17) rfl rfl Try.func19 (by kernel_rfl) rfl #[.pointer (some ⟨g451, 0, none⟩), .int .i64 5] rfl (by (try simp only [List.map_toArray, List.map_cons, List.map_nil]); first | done | rfl | (simp only [List.length_drop, List.length_take]; rfl)) ?_; (with_reducible refine (paygen_Deck_Book.calls k g451 t449 t450 5 t452 t455 w _ ?side1 ?side2 A4.out).mono ?_); (case side1 => repeat (first | (with_reducible first | exact HI451.out | apply IsS64.alloc | apply IsS64.drewN | apply IsS64.drew | apply IsS64.set_1) | exact HI451.out)); (case side2 => repeat (first | (with_reducible first | exact HB.out | apply below_alloc | apply pw_below_drewN | apply below_drew1 | refine below_set ?_ (IsS64.ge HI451.out)) | exact HB.out)); rintro e w8 ⟨v453, rfl, ho0, hi, hb, hk⟩; refine ⟨_, rfl, ?_⟩; have n0_ := Aside0.mk (Kd.R_lower ho0 (below_size (by repeat (first | (with_reducible first | exact HB.out | apply below_alloc | apply pw_below_drewN | apply below_drew1 | refine below_set ?_ (IsS64.ge HI451.out)) | exact HB.out)))); have n1_ := Aside0.mk (hb); have n2_ := Aside0.mk (hi); clear HB; clear HI451; have HO454 := n0_; have HB := n1_; have HI451 := n2_; clear n0_ n1_ n2_; (try clear hb); (try clear hb2); (try clear hk); (try clear hi); (try clear ho0); obtain ⟨Ao9, co9, eo9⟩ := Kd.R_slice HO454.out; subst eo9) | ((with_reducible refine gate_callee (f := 16) rfl ?_); refine goesL_ (some 21) rfl rfl Try.func16 (by kernel_rfl) rfl #[] rfl (by (try simp only [List.map_toArray, List.map_cons, List.map_nil]); first | done | rfl | (simp only [List.length_drop, List.length_take]; rfl)) ?_; (with_reducible refine (payrolllaw35_awake.calls k  t456 _ A6.out).mono ?_); rintro e w10 ⟨rfl, hb⟩; refine ⟨_, rfl, ?_⟩; have n0_ := Aside0.mk (Kd.R_below (by (with_reducible repeat (first | apply Kd.R_alloc | apply Kd.R_drewN | apply Kd.R_drew)); exact HO454.out) hb); have n1_ := Aside0.mk (IsS64.below (by repeat (first | (with_reducible first | exact HI451.out | apply IsS64.alloc | apply IsS64.drewN | apply IsS64.drew | apply IsS64.set_1) | exact HI451.out)) hb); have n2_ := Aside0.mk (below_step (by repeat (first | (with_reducible first | exact HB.out | apply below_alloc | apply pw_below_drewN | apply below_drew1 | refine below_set ?_ (IsS64.ge HI451.out)) | exact HB.out)) hb); clear HO454; clear HI451; clear HB; have HO454 := n0_; have HI451 := n1_; have HB := n2_; clear n0_ n1_ n2_; (try clear hb); (try clear hb2); (try clear hk); (try clear hi)))
    go_ret
    exact ⟨by first | rfl | (simp [errW_none, errW_some] <;> rfl) | (simp [*, errW_none, errW_some] <;> rfl), by repeat (first | (with_reducible first | exact HB.out | apply below_alloc | apply pw_below_drewN | apply below_drew1 | refine below_set ?_ (IsS64.ge HI451.out)) | exact HB.out)⟩
  · rw [if_neg c5] at H
    have c5b0 : ((t452.length : Int) == 0) = false := beq_eq_false_iff_ne.mpr c5
    have c5b1 : ((t452.length : Int) != 0) = true := bne_iff_ne.mpr c5
    have c5b2 : ¬ (t452 = []) := fun h_ => c5 (by rw [h_]; rfl)
    replace H := Option.bind_eq_some_iff.mp H
    obtain ⟨t457, A110, H⟩ := H
    replace H : (if 0 ≤ t457 then (if t457 < (t452.length : Int) then (payrolllaw35_BookReverses.l0 k t452 ((rd_T27 t452 t457).f0) ([] : List (S27)) 0) else (none)) else (none)) = some r := H
    have A11 := Aside0.mk A110
    clear A110
    by_cases c12 : 0 ≤ t457
    · rw [if_pos c12] at H
      have c12b0 : decide (0 ≤ t457) = true := decide_eq_true c12
      clear c12
      by_cases c13 : t457 < (t452.length : Int)
      · rw [if_pos c13] at H
        have c13b0 : decide (t457 < (t452.length : Int)) = true := decide_eq_true c13
        clear c13
        have H' := Aside0.mk H
        clear H
        go_enter Try.func8, Try.ntmps8
        go_wp2_with (first | ((with_reducible refine gate_callee (f := 18) rfl ?_); refine goesL_ (some 16) rfl rfl Try.func18 (by kernel_rfl) rfl #[.slice A0 l0.length c0] rfl (by (try simp only [List.map_toArray, List.map_cons, List.map_nil]); first | done | rfl | (simp only [List.length_drop, List.length_take]; rfl)) ?_; (with_reducible refine (paygen_New.calls _ _ l0 t449 t450 w _ ?side1 ?side2 ?side3 A3.out).mono ?_); (case side1 => repeat (first | (with_reducible first | exact HB.out | apply below_alloc | apply pw_below_drewN | apply below_drew1) | exact HB.out)); (case side2 => exact HR0.out); (case side3 => exact HC0.out); rintro e w14 ⟨g451, rfl, hi, hb, hb2⟩; refine ⟨_, rfl, ?_⟩; have n0_ := Aside0.mk (hb); have n1_ := Aside0.mk (hi); clear HB; have HB := n0_; have HI451 := n1_; clear n0_ n1_; (try clear hb); (try clear hb2); (try clear hk); (try clear hi)) | ((with_reducible refine gate_callee (f := 19) rfl ?_); refine goesL_ (some 17) rfl rfl Try.func19 (by kernel_rfl) rfl #[.pointer (some ⟨g451, 0, none⟩), .int .i64 5] rfl (by (try simp only [List.map_toArray, List.map_cons, List.map_nil]); first | done | rfl | (simp only [List.length_drop, List.length_take]; rfl)) ?_; (with_reducible refine (paygen_Deck_Book.calls k g451 t449 t450 5 t452 t455 w _ ?side1 ?side2 A4.out).mono ?_); (case side1 => repeat (first | (with_reducible first | exact HI451.out | apply IsS64.alloc | apply IsS64.drewN | apply IsS64.drew | apply IsS64.set_1) | exact HI451.out)); (case side2 => repeat (first | (with_reducible first | exact HB.out | apply below_alloc | apply pw_below_drewN | apply below_drew1 | refine below_set ?_ (IsS64.ge HI451.out)) | exact HB.out)); rintro e w15 ⟨v453, rfl, ho0, hi, hb, hk⟩; refine ⟨_, rfl, ?_⟩; have n0_ := Aside0.mk (Kd.R_lower ho0 (below_size (by repeat (first | (with_reducible first | exact HB.out | apply below_alloc | apply pw_below_drewN | apply below_drew1 | refine below_set ?_ (IsS64.ge HI451.out)) | exact HB.out)))); have n1_ := Aside0.mk (hb); have n2_ := Aside0.mk (hi); clear HB; clear HI451; have HO454 := n0_; have HB := n1_; have HI451 := n2_; clear n0_ n1_ n2_; (try clear hb); (try clear hb2); (try clear hk); (try clear hi); (try clear ho0); obtain ⟨Ao16, co16, eo16⟩ := Kd.R_slice HO454.out; subst eo16) | ((with_reducible refine gate_callee (f := 11) rfl ?_); refine goesL_ (some 26) rfl rfl Try.func11 (by kernel_rfl) rfl #[.int .i64 a1, .int .i64 (t452.length : Int)] rfl (by (try simp only [List.map_toArray, List.map_cons, List.map_nil]); first | done | rfl | (simp only [List.length_drop, List.length_take]; rfl)) ?_; (with_reducible refine (paygen_Mod.calls a1 (t452.length : Int) t457 _ A11.out).mono ?_); rintro e w' ⟨rfl, ⟨nd, rfl⟩⟩; refine ⟨_, rfl, ?_⟩; have p458 : 0 ≤ (t457 : Int) := of_decide_eq_true (by first | (with_reducible assumption) | assumption); have q458 : t457 < (t452.length : Int) := of_decide_eq_true (by first | (with_reducible assumption) | assumption); obtain ⟨ad458, e458, hx458_0, hx458_1, hx458_2, hx458_3, hx458_4, hx458_5⟩ := at_T27 (Kd.R_reads' HO454.out).2.2 t457 p458 q458; cases e458; replace p458 := eq_true p458; replace q458 := eq_true q458))
        go_loopg [7, 8] k (fun kq v7 v8 w' => ∃ (x7_1 : List (S27)) (x8_1 : Int), v8 = .int .i64 x8_1 ∧ Aside0 (payrolllaw35_BookReverses.l0 kq t452 ((rd_T27 t452 t457).f0) x7_1 x8_1 = some r) ∧ Aside0 (kq ≤ k) ∧ Aside0 (Kd.R k27 27 w' w.heap.size (fun k_ => some k_ ≠ (v7 : Value).ownBlock) (.slice (some ad458) t452.length co16) t452) ∧ Aside0 (Kd.R k27 27 w' w.heap.size (fun k_ => some k_ ≠ ((.slice (some ad458) t452.length co16) : Value).ownBlock) v7 x7_1) ∧ Aside0 (Below w.heap.size w w'))
        case atStart => exact ⟨(([] : List (S27))), (0), (by first | rfl | (simp; done) | (simp [*]; done)), H', ⟨Nat.le_refl _⟩, ⟨by (with_reducible repeat (first | apply Kd.R_alloc | apply Kd.R_drewN | apply Kd.R_drew)); exact Kd.R_mono HO454.out (fun _ hk => (by simp [Value.ownBlock]))⟩, ⟨by first | exact Kd.R_nil _ _ _ _ _ | exact Kd.N_nil _ _ _ _ _ | exact Kd.V_nil _ _ _ _ _ | exact Kd.Q_nil _ _ _ _ _ | exact Kd.S_nil _ _ _ _ _⟩, ⟨by repeat (first | (with_reducible first | exact HB.out | apply below_alloc | apply pw_below_drewN | apply below_drew1 | refine below_set ?_ (IsS64.ge HI451.out)) | exact HB.out)⟩⟩
        case round =>
          clear H'
          try clear c1
          try clear p2
          try clear p4
          try clear q4
          try clear hx4
          try clear c5
          try clear c5b0
          try clear c5b1
          try clear c5b2
          try clear c8
          try clear c11
          try clear c12
          try clear c12b0
          try clear c13
          try clear c13b0
          try clear c16
          try clear hx458_0
          try clear hx458_1
          try clear hx458_2
          try clear hx458_3
          try clear hx458_4
          try clear hx458_5
          try clear p458
          try clear q458
          obtain ⟨x7_1, x8_1, rfl, HA, HK1, HO_5, HO_7, HB⟩ := hrel
          cases gk with
          | zero => exact absurd HA.out (by simp [payrolllaw35_BookReverses.l0])
          | succ k1 =>
            have H := HA.out
            clear HA
            simp only [payrolllaw35_BookReverses.l0] at H
            by_cases c17 : x8_1 < (t452.length : Int)
            · rw [if_pos c17] at H
              have c17b0 : decide (x8_1 < (t452.length : Int)) = true := decide_eq_true c17
              clear c17
              by_cases c18 : 0 ≤ x8_1
              · rw [if_pos c18] at H
                have c18b0 : decide (0 ≤ x8_1) = true := decide_eq_true c18
                clear c18
                by_cases c19 : ((rd_T27 t452 x8_1).f0) = ((rd_T27 t452 t457).f0)
                · rw [if_pos c19] at H
                  have c19b0 : (((rd_T27 t452 x8_1).f0) == ((rd_T27 t452 t457).f0)) = true := beq_iff_eq.mpr c19
                  have c19b1 : (((rd_T27 t452 x8_1).f0) != ((rd_T27 t452 t457).f0)) = false := bne_eq_false_iff_eq.mpr c19
                  clear c19
                  have H' := Aside0.mk H
                  clear H
                  have p459 : 0 ≤ (x8_1 : Int) := of_decide_eq_true (by first | (with_reducible assumption) | assumption)
                  have q459 : x8_1 < (t452.length : Int) := of_decide_eq_true (by first | (with_reducible assumption) | assumption)
                  obtain ⟨ad459, e459, hx459_0, hx459_1, hx459_2, hx459_3, hx459_4, hx459_5⟩ := at_T27 (Kd.R_reads' HO_5.out).2.2 x8_1 p459 q459
                  obtain rfl : ad458 = ad459 := (by injection e459)
                  replace p459 := eq_true p459
                  replace q459 := eq_true q459
                  go_wp2
                  go_roundg k1
                  case measure => have := HK1.out; omega
                  case rel => exact ⟨(x7_1), (wrap64 (x8_1 + 1)), (by first | rfl | (simp; done) | (simp [*]; done)), H', ⟨by have := HK1.out; omega⟩, ⟨by (with_reducible repeat (first | apply Kd.R_alloc | apply Kd.R_drewN | apply Kd.R_drew)); exact HO_5.out⟩, ⟨by (with_reducible repeat (first | apply Kd.R_alloc | apply Kd.R_drewN | apply Kd.R_drew)); exact HO_7.out⟩, ⟨by repeat (first | (with_reducible first | exact HB.out | apply below_alloc | apply pw_below_drewN | apply below_drew1) | exact HB.out)⟩⟩
                · rw [if_neg c19] at H
                  have c19b0 : (((rd_T27 t452 x8_1).f0) == ((rd_T27 t452 t457).f0)) = false := beq_eq_false_iff_ne.mpr c19
                  have c19b1 : (((rd_T27 t452 x8_1).f0) != ((rd_T27 t452 t457).f0)) = true := bne_iff_ne.mpr c19
                  by_cases c20 : x7_1.length < 2513169434916
                  · rw [if_pos c20] at H
                    have LMc20 := Aside0.mk c20
                    clear c20
                    obtain ⟨y461, hy461⟩ : ∃ y_ : List (S27), y_ = (x7_1 ++ [(⟨(rd_T27 t452 x8_1).f0, (rd_T27 t452 x8_1).f1, (rd_T27 t452 x8_1).f2, (⟨(rd_T27 t452 x8_1).f3.f0, (rd_T27 t452 x8_1).f3.f1, (rd_T27 t452 x8_1).f3.f2⟩ : S25)⟩ : S27)]) := ⟨_, rfl⟩
                    replace H : (payrolllaw35_BookReverses.l0 k1 t452 ((rd_T27 t452 t457).f0) y461 (wrap64 (x8_1 + 1))) = some r := by first | (rw [hy461]; with_reducible exact H) | (have H2_ := (Option.bind_some _ _).symm.trans H; rw [hy461]; with_reducible exact H2_) | (have H2_ := (Option.bind_some _ _).symm.trans H; with_reducible exact H2_) | with_reducible exact H | (rw [hy461]; exact H) | exact H
                    have Ny461 := Aside0.mk hy461
                    clear hy461
                    have H' := Aside0.mk H
                    clear H
                    have p459 : 0 ≤ (x8_1 : Int) := of_decide_eq_true (by first | (with_reducible assumption) | assumption)
                    have q459 : x8_1 < (t452.length : Int) := of_decide_eq_true (by first | (with_reducible assumption) | assumption)
                    obtain ⟨ad459, e459, hx459_0, hx459_1, hx459_2, hx459_3, hx459_4, hx459_5⟩ := at_T27 (Kd.R_reads' HO_5.out).2.2 x8_1 p459 q459
                    obtain rfl : ad458 = ad459 := (by injection e459)
                    replace p459 := eq_true p459
                    replace q459 := eq_true q459
                    have p460 : 0 ≤ (x8_1 : Int) := of_decide_eq_true (by first | (with_reducible assumption) | assumption)
                    have q460 : x8_1 < (t452.length : Int) := of_decide_eq_true (by first | (with_reducible assumption) | assumption)
                    obtain ⟨ad460, e460, hx460_0, hx460_1, hx460_2, hx460_3, hx460_4, hx460_5⟩ := at_T27 (Kd.R_reads' HO_5.out).2.2 x8_1 p460 q460
                    obtain rfl : ad458 = ad460 := (by injection e460)
                    replace p460 := eq_true p460
                    replace q460 := eq_true q460
                    go_wp2_with (first | ((with_reducible refine gate_builtin (b := .append) (xs := #[.tmp 43, .tmp 48]) rfl ?_); at_builtin; refine Kd.R_append k27 (w0 := w) w.heap.size rfl (.tmp 43) (.tmp 48) 23 27 (.agg #[(.int .i64 0), (.int .i64 0), (.int .i64 0), (.int .i64 0), (.string ⟨#[]⟩), (.int .i64 0)]) 56 rfl Try.underlying23 info27 rfl (by decide) (by omega) u7 x7_1 (⟨(rd_T27 t452 x8_1).f0, (rd_T27 t452 x8_1).f1, (rd_T27 t452 x8_1).f2, (⟨(rd_T27 t452 x8_1).f3.f0, (rd_T27 t452 x8_1).f3.f1, (rd_T27 t452 x8_1).f3.f2⟩ : S25)⟩ : S27) [.int .i64 ((rd_T27 t452 x8_1).f0), .int .i64 ((rd_T27 t452 x8_1).f1), .int .i64 ((rd_T27 t452 x8_1).f2), .int .i64 ((rd_T27 t452 x8_1).f3.f0), .string ((rd_T27 t452 x8_1).f3.f1), .int .i64 ((rd_T27 t452 x8_1).f3.f2)] (fun k_ => some k_ ≠ (.slice (some ad458) t452.length co16 : Value).ownBlock) (fun _ => False) rfl rfl ?aP (fun _ hk => hk.elim) ?aF ?aO ?aB ?aS ?aL ?_; (case aP => exact k27_mkM _ _ _ (⟨(rd_T27 t452 x8_1).f0, (rd_T27 t452 x8_1).f1, (rd_T27 t452 x8_1).f2, (⟨(rd_T27 t452 x8_1).f3.f0, (rd_T27 t452 x8_1).f3.f1, (rd_T27 t452 x8_1).f3.f2⟩ : S25)⟩ : S27)); (case aB => exact (by repeat (first | (with_reducible first | exact HB.out | apply below_alloc | apply pw_below_drewN | apply below_drew1) | exact HB.out))); (case aF => exact (fun k_ hk => Kd.fresh' (Kd.R_lt (by (with_reducible repeat (first | apply Kd.R_alloc | apply Kd.R_drewN | apply Kd.R_drew)); exact HO_5.out)) k_ hk)); (case aO => exact (by (with_reducible repeat (first | apply Kd.R_alloc | apply Kd.R_drewN | apply Kd.R_drew)); exact HO_7.out)); (case aS => exact (below_size (by repeat (first | (with_reducible first | exact HB.out | apply below_alloc | apply pw_below_drewN | apply below_drew1) | exact HB.out)))); (case aL => have := LMc20.out; omega); intro v462 w21 ho hb hg hat; rw [← Ny461.out] at ho; have n0_ := Aside0.mk (Kd.R_after (ok := (fun _ => True)) (by (with_reducible repeat (first | apply Kd.R_alloc | apply Kd.R_drewN | apply Kd.R_drew)); exact Kd.R_mono HO_5.out (fun _ hk => ⟨trivial, hk⟩)) hg hat); have n1_ := Aside0.mk (hb); have n2_ := Aside0.mk (ho); clear HO_5; clear HB; clear HO_7; have HO_5 := n0_; have HB := n1_; have HO463 := n2_; clear n0_ n1_ n2_; clear ho hb hg hat))
                    go_roundg k1
                    case measure => have := HK1.out; omega
                    case rel => exact ⟨(y461), (wrap64 (x8_1 + 1)), (by first | rfl | (simp; done) | (simp [*]; done)), H', ⟨by have := HK1.out; omega⟩, ⟨by (with_reducible repeat (first | apply Kd.R_alloc | apply Kd.R_drewN | apply Kd.R_drew)); exact Kd.R_mono HO_5.out (fun _ hk => hk.2)⟩, ⟨by (with_reducible repeat (first | apply Kd.R_alloc | apply Kd.R_drewN | apply Kd.R_drew)); exact HO463.out⟩, ⟨by repeat (first | (with_reducible first | exact HB.out | apply below_alloc | apply pw_below_drewN | apply below_drew1) | exact HB.out)⟩⟩
                  · rw [if_neg c20] at H
                    exact absurd H (by simp)
              · rw [if_neg c18] at H
                exact absurd H (by simp)
            · rw [if_neg c17] at H
              have c17b0 : decide (x8_1 < (t452.length : Int)) = false := decide_eq_false c17
              clear c17
              replace H := Option.bind_eq_some_iff.mp H
              obtain ⟨⟨t464, t465⟩, A220, H⟩ := H
              replace H : ((book_Add.f k1 t452 t464).bind fun bt468 => (if t465 = 0 then (if bt468.2 = 0 then (payrolllaw35_BookReverses.l1 k1 x7_1 bt468.1 1) else (none)) else (none))) = some r := H
              have A22 := Aside0.mk A220
              clear A220
              replace H := Option.bind_eq_some_iff.mp H
              obtain ⟨⟨t468, t469⟩, A230, H⟩ := H
              replace H : (if t465 = 0 then (if t469 = 0 then (payrolllaw35_BookReverses.l1 k1 x7_1 t468 1) else (none)) else (none)) = some r := H
              have A23 := Aside0.mk A230
              clear A230
              by_cases c24 : t465 = 0
              · rw [if_pos c24] at H
                have c24b0 : (t465 == 0) = true := beq_iff_eq.mpr c24
                have c24b1 : (t465 != 0) = false := bne_eq_false_iff_eq.mpr c24
                clear c24
                by_cases c25 : t469 = 0
                · rw [if_pos c25] at H
                  have c25b0 : (t469 == 0) = true := beq_iff_eq.mpr c25
                  have c25b1 : (t469 != 0) = false := bne_eq_false_iff_eq.mpr c25
                  clear c25
                  have H' := Aside0.mk H
                  clear H
                  go_wp2_with (first | ((with_reducible refine gate_callee (f := 32) rfl ?_); refine goesL_ (some 53) rfl rfl Try.func32 (by kernel_rfl) rfl #[.slice (some ad458) t452.length co16, .int .i64 ((rd_T27 t452 t457).f0), .int .i64 100] rfl (by (try simp only [List.map_toArray, List.map_cons, List.map_nil]); first | done | rfl | (simp only [List.length_drop, List.length_take]; rfl)) ?_; (with_reducible refine (book_Undo.calls k1 _ _ t452 ((rd_T27 t452 t457).f0) 100 t464 t465 _ ?side1 ?side2 A22.out).mono ?_); (case side1 => repeat (first | exact (Kd.R_reads' HO_5.out).2.2 | (with_reducible refine Kd.C_alloc ?_ _) | (with_reducible refine Kd.C_drewN ?_ _) | (with_reducible refine Kd.C_drew ?_))); (case side2 => exact (Kd.R_reads' HO_5.out).2.1); rintro e w26 ⟨v466, rfl, ho0, hb⟩; refine ⟨_, rfl, ?_⟩; have n0_ := Aside0.mk (Kd.R_elder' (by (with_reducible repeat (first | apply Kd.R_alloc | apply Kd.R_drewN | apply Kd.R_drew)); exact HO_5.out) (Kd.R_base ho0) hb); have n1_ := Aside0.mk (Kd.R_elder' (by (with_reducible repeat (first | apply Kd.R_alloc | apply Kd.R_drewN | apply Kd.R_drew)); exact HO_7.out) (Kd.R_base ho0) hb); have n2_ := Aside0.mk (Kd.R_lower (Kd.R_new' (Kd.R_new' ho0 (Kd.R_lt (by (with_reducible repeat (first | apply Kd.R_alloc | apply Kd.R_drewN | apply Kd.R_drew)); exact HO_5.out))) (Kd.R_lt (by (with_reducible repeat (first | apply Kd.R_alloc | apply Kd.R_drewN | apply Kd.R_drew)); exact HO_7.out))) (below_size (by repeat (first | (with_reducible first | exact HB.out | apply below_alloc | apply pw_below_drewN | apply below_drew1) | exact HB.out)))); have n3_ := Aside0.mk (below_step (by repeat (first | (with_reducible first | exact HB.out | apply below_alloc | apply pw_below_drewN | apply below_drew1) | exact HB.out)) hb); clear HO_5; clear HO_7; clear HB; have HO_5 := n0_; have HO_7 := n1_; have HO467 := n2_; have HB := n3_; clear n0_ n1_ n2_ n3_; (try clear hb); (try clear hb2); (try clear hk); (try clear hi); (try clear ho0); obtain ⟨Ao27, co27, eo27⟩ := Kd.R_slice HO467.out; subst eo27) | ((with_reducible refine gate_callee (f := 13) rfl ?_); refine goesL_ (some 59) rfl rfl Try.func13 (by kernel_rfl) rfl #[.slice (some ad458) t452.length co16, .slice Ao27 t464.length co27] rfl (by (try simp only [List.map_toArray, List.map_cons, List.map_nil]); first | done | rfl | (simp only [List.length_drop, List.length_take]; rfl)) ?_; (with_reducible refine (book_Add.calls k1 _ _ t452 _ _ t464 t468 t469 _ ?side1 ?side2 ?side3 ?side4 A23.out).mono ?_); (case side1 => repeat (first | exact (Kd.R_reads' HO_5.out).2.2 | (with_reducible refine Kd.C_alloc ?_ _) | (with_reducible refine Kd.C_drewN ?_ _) | (with_reducible refine Kd.C_drew ?_))); (case side2 => exact (Kd.R_reads' HO_5.out).2.1); (case side3 => repeat (first | exact (Kd.R_reads' HO467.out).2.2 | (with_reducible refine Kd.C_alloc ?_ _) | (with_reducible refine Kd.C_drewN ?_ _) | (with_reducible refine Kd.C_drew ?_))); (case side4 => exact (Kd.R_reads' HO467.out).2.1); rintro e w28 ⟨v470, rfl, ho0, hb⟩; refine ⟨_, rfl, ?_⟩; have n0_ := Aside0.mk (Kd.R_elder' (by (with_reducible repeat (first | apply Kd.R_alloc | apply Kd.R_drewN | apply Kd.R_drew)); exact HO_5.out) (Kd.R_base ho0) hb); have n1_ := Aside0.mk (Kd.R_elder' (by (with_reducible repeat (first | apply Kd.R_alloc | apply Kd.R_drewN | apply Kd.R_drew)); exact HO_7.out) (Kd.R_base ho0) hb); have n2_ := Aside0.mk (Kd.R_elder' (by (with_reducible repeat (first | apply Kd.R_alloc | apply Kd.R_drewN | apply Kd.R_drew)); exact HO467.out) (Kd.R_base ho0) hb); have n3_ := Aside0.mk (Kd.R_lower (Kd.R_new' (Kd.R_new' (Kd.R_new' ho0 (Kd.R_lt (by (with_reducible repeat (first | apply Kd.R_alloc | apply Kd.R_drewN | apply Kd.R_drew)); exact HO_5.out))) (Kd.R_lt (by (with_reducible repeat (first | apply Kd.R_alloc | apply Kd.R_drewN | apply Kd.R_drew)); exact HO_7.out))) (Kd.R_lt (by (with_reducible repeat (first | apply Kd.R_alloc | apply Kd.R_drewN | apply Kd.R_drew)); exact HO467.out))) (below_size (by repeat (first | (with_reducible first | exact HB.out | apply below_alloc | apply pw_below_drewN | apply below_drew1) | exact HB.out)))); have n4_ := Aside0.mk (below_step (by repeat (first | (with_reducible first | exact HB.out | apply below_alloc | apply pw_below_drewN | apply below_drew1) | exact HB.out)) hb); clear HO_5; clear HO_7; clear HO467; clear HB; have HO_5 := n0_; have HO_7 := n1_; have HO467 := n2_; have HO471 := n3_; have HB := n4_; clear n0_ n1_ n2_ n3_ n4_; (try clear hb); (try clear hb2); (try clear hk); (try clear hi); (try clear ho0)))
                  go_loopg [13] k1 (fun kq v13 w' => ∃ (x13_2 : Int), v13 = .int .i64 x13_2 ∧ Aside0 (payrolllaw35_BookReverses.l1 kq x7_1 t468 x13_2 = some r) ∧ Aside0 (kq ≤ k1) ∧ Aside0 (Kd.R k27 27 w' w.heap.size (fun k_ => some k_ ≠ (v470 : Value).ownBlock) u7 x7_1) ∧ Aside0 (Kd.R k27 27 w' w.heap.size (fun k_ => some k_ ≠ (u7 : Value).ownBlock) v470 t468) ∧ Aside0 (Below w.heap.size w w'))
                  case atStart => exact ⟨(1), (by first | rfl | (simp; done) | (simp [*]; done)), H', ⟨Nat.le_refl _⟩, ⟨by (with_reducible repeat (first | apply Kd.R_alloc | apply Kd.R_drewN | apply Kd.R_drew)); exact Kd.R_mono HO_7.out (fun _ hk => hk.2)⟩, ⟨by (with_reducible repeat (first | apply Kd.R_alloc | apply Kd.R_drewN | apply Kd.R_drew)); exact Kd.R_mono HO471.out (fun _ hk => hk.1.2)⟩, ⟨by repeat (first | (with_reducible first | exact HB.out | apply below_alloc | apply pw_below_drewN | apply below_drew1) | exact HB.out)⟩⟩
                  case round =>
                    clear H'
                    try clear c1
                    try clear c2
                    try clear p2
                    try clear c3
                    try clear p4
                    try clear q4
                    try clear hx4
                    try clear c5
                    try clear c5b0
                    try clear c5b1
                    try clear c5b2
                    try clear p6
                    try clear c8
                    try clear c11
                    try clear c12
                    try clear c12b0
                    try clear c13
                    try clear c13b0
                    try clear c16
                    try clear c17
                    try clear c17b0
                    try clear c18
                    try clear c18b0
                    try clear c19
                    try clear c19b0
                    try clear c19b1
                    try clear c20
                    try clear c24
                    try clear c24b0
                    try clear c24b1
                    try clear c25
                    try clear c25b0
                    try clear c25b1
                    try clear hx458_0
                    try clear hx458_1
                    try clear hx458_2
                    try clear hx458_3
                    try clear hx458_4
                    try clear hx458_5
                    try clear hx459_0
                    try clear hx459_1
                    try clear hx459_2
                    try clear hx459_3
                    try clear hx459_4
                    try clear hx459_5
                    try clear hx460_0
                    try clear hx460_1
                    try clear hx460_2
                    try clear hx460_3
                    try clear hx460_4
                    try clear hx460_5
                    try clear p2
                    try clear p4
                    try clear p458
                    try clear p459
                    try clear p460
                    try clear q4
                    try clear q458
                    try clear q459
                    try clear q460
                    obtain ⟨x13_2, rfl, HA, HK2, HO_7, HO_11, HB⟩ := hrel
                    cases gk with
                    | zero => exact absurd HA.out (by simp [payrolllaw35_BookReverses.l1])
                    | succ k2 =>
                      have H := HA.out
                      clear HA
                      simp only [payrolllaw35_BookReverses.l1] at H
                      by_cases c29 : x13_2 ≤ 3
                      · rw [if_pos c29] at H
                        have c29b0 : decide (x13_2 ≤ 3) = true := decide_eq_true c29
                        clear c29
                        replace H := Option.bind_eq_some_iff.mp H
                        obtain ⟨t472, A300, H⟩ := H
                        replace H : ((book_Net.f k2 x7_1 x13_2).bind fun t473 => (if t472 = t473 then (payrolllaw35_BookReverses.l2 k2 x7_1 t468 x13_2 0) else (none))) = some r := H
                        have A30 := Aside0.mk A300
                        clear A300
                        replace H := Option.bind_eq_some_iff.mp H
                        obtain ⟨t473, A310, H⟩ := H
                        replace H : (if t472 = t473 then (payrolllaw35_BookReverses.l2 k2 x7_1 t468 x13_2 0) else (none)) = some r := H
                        have A31 := Aside0.mk A310
                        clear A310
                        by_cases c32 : t472 = t473
                        · rw [if_pos c32] at H
                          have c32b0 : (t472 == t473) = true := beq_iff_eq.mpr c32
                          have c32b1 : (t472 != t473) = false := bne_eq_false_iff_eq.mpr c32
                          clear c32
                          have H' := Aside0.mk H
                          clear H
                          obtain ⟨Ao33, co33, eo33⟩ := Kd.R_slice HO_11.out
                          subst eo33
                          go_wp2_with (first | ((with_reducible refine gate_callee (f := 15) rfl ?_); refine goesL_ (some 74) rfl rfl Try.func15 (by kernel_rfl) rfl #[.slice Ao33 t468.length co33, .int .i64 x13_2] rfl (by (try simp only [List.map_toArray, List.map_cons, List.map_nil]); first | done | rfl | (simp only [List.length_drop, List.length_take]; rfl)) ?_; (with_reducible refine (book_Net.calls k2 _ _ t468 x13_2 t472 _ ?side1 ?side2 A30.out).mono ?_); (case side1 => repeat (first | exact (Kd.R_reads' HO_11.out).2.2 | (with_reducible refine Kd.C_alloc ?_ _) | (with_reducible refine Kd.C_drewN ?_ _) | (with_reducible refine Kd.C_drew ?_))); (case side2 => exact (Kd.R_reads' HO_11.out).2.1); rintro e w34 ⟨rfl, hb⟩; refine ⟨_, rfl, ?_⟩; have n0_ := Aside0.mk (Kd.R_below (by (with_reducible repeat (first | apply Kd.R_alloc | apply Kd.R_drewN | apply Kd.R_drew)); exact HO_7.out) hb); have n1_ := Aside0.mk (Kd.R_below (by (with_reducible repeat (first | apply Kd.R_alloc | apply Kd.R_drewN | apply Kd.R_drew)); exact HO_11.out) hb); have n2_ := Aside0.mk (below_step (by repeat (first | (with_reducible first | exact HB.out | apply below_alloc | apply pw_below_drewN | apply below_drew1) | exact HB.out)) hb); clear HO_7; clear HO_11; clear HB; have HO_7 := n0_; have HO_11 := n1_; have HB := n2_; clear n0_ n1_ n2_; (try clear hb); (try clear hb2); (try clear hk); (try clear hi); obtain ⟨Ao35, co35, eo35⟩ := Kd.R_slice HO_7.out; subst eo35) | ((with_reducible refine gate_callee (f := 15) rfl ?_); refine goesL_ (some 77) rfl rfl Try.func15 (by kernel_rfl) rfl #[.slice Ao35 x7_1.length co35, .int .i64 x13_2] rfl (by (try simp only [List.map_toArray, List.map_cons, List.map_nil]); first | done | rfl | (simp only [List.length_drop, List.length_take]; rfl)) ?_; (with_reducible refine (book_Net.calls k2 _ _ x7_1 x13_2 t473 _ ?side1 ?side2 A31.out).mono ?_); (case side1 => repeat (first | exact (Kd.R_reads' HO_7.out).2.2 | (with_reducible refine Kd.C_alloc ?_ _) | (with_reducible refine Kd.C_drewN ?_ _) | (with_reducible refine Kd.C_drew ?_))); (case side2 => exact (Kd.R_reads' HO_7.out).2.1); rintro e w36 ⟨rfl, hb⟩; refine ⟨_, rfl, ?_⟩; have n0_ := Aside0.mk (Kd.R_below (by (with_reducible repeat (first | apply Kd.R_alloc | apply Kd.R_drewN | apply Kd.R_drew)); exact HO_7.out) hb); have n1_ := Aside0.mk (Kd.R_below (by (with_reducible repeat (first | apply Kd.R_alloc | apply Kd.R_drewN | apply Kd.R_drew)); exact HO_11.out) hb); have n2_ := Aside0.mk (below_step (by repeat (first | (with_reducible first | exact HB.out | apply below_alloc | apply pw_below_drewN | apply below_drew1) | exact HB.out)) hb); clear HO_7; clear HO_11; clear HB; have HO_7 := n0_; have HO_11 := n1_; have HB := n2_; clear n0_ n1_ n2_; (try clear hb); (try clear hb2); (try clear hk); (try clear hi)))
                          go_loopg [14] k2 (fun kq v14 w' => ∃ (x14_3 : Int), v14 = .int .i64 x14_3 ∧ Aside0 (payrolllaw35_BookReverses.l2 kq x7_1 t468 x13_2 x14_3 = some r) ∧ Aside0 (kq ≤ k2) ∧ Aside0 (Kd.R k27 27 w' w.heap.size (fun k_ => some k_ ≠ ((.slice Ao33 t468.length co33) : Value).ownBlock) (.slice Ao35 x7_1.length co35) x7_1) ∧ Aside0 (Kd.R k27 27 w' w.heap.size (fun k_ => some k_ ≠ ((.slice Ao35 x7_1.length co35) : Value).ownBlock) (.slice Ao33 t468.length co33) t468) ∧ Aside0 (Below w.heap.size w w'))
                          case atStart => exact ⟨(0), (by first | rfl | (simp; done) | (simp [*]; done)), H', ⟨Nat.le_refl _⟩, ⟨by (with_reducible repeat (first | apply Kd.R_alloc | apply Kd.R_drewN | apply Kd.R_drew)); exact HO_7.out⟩, ⟨by (with_reducible repeat (first | apply Kd.R_alloc | apply Kd.R_drewN | apply Kd.R_drew)); exact HO_11.out⟩, ⟨by repeat (first | (with_reducible first | exact HB.out | apply below_alloc | apply pw_below_drewN | apply below_drew1) | exact HB.out)⟩⟩
                          case round =>
                            clear H'
                            try clear c1
                            try clear c2
                            try clear p2
                            try clear c3
                            try clear p4
                            try clear q4
                            try clear hx4
                            try clear c5
                            try clear c5b0
                            try clear c5b1
                            try clear c5b2
                            try clear p6
                            try clear c8
                            try clear c11
                            try clear c12
                            try clear c12b0
                            try clear c13
                            try clear c13b0
                            try clear c15
                            try clear c16
                            try clear c17
                            try clear c17b0
                            try clear c18
                            try clear c18b0
                            try clear c19
                            try clear c19b0
                            try clear c19b1
                            try clear c20
                            try clear c24
                            try clear c24b0
                            try clear c24b1
                            try clear c25
                            try clear c25b0
                            try clear c25b1
                            try clear c29
                            try clear c29b0
                            try clear c32
                            try clear c32b0
                            try clear c32b1
                            try clear hx458_0
                            try clear hx458_1
                            try clear hx458_2
                            try clear hx458_3
                            try clear hx458_4
                            try clear hx458_5
                            try clear hx459_0
                            try clear hx459_1
                            try clear hx459_2
                            try clear hx459_3
                            try clear hx459_4
                            try clear hx459_5
                            try clear hx460_0
                            try clear hx460_1
                            try clear hx460_2
                            try clear hx460_3
                            try clear hx460_4
                            try clear hx460_5
                            try clear p2
                            try clear p4
                            try clear p458
                            try clear p459
                            try clear p460
                            try clear p6
                            try clear q4
                            try clear q458
                            try clear q459
                            try clear q460
                            obtain ⟨x14_3, rfl, HA, HK3, HO_7, HO_11, HB⟩ := hrel
                            cases gk with
                            | zero => exact absurd HA.out (by simp [payrolllaw35_BookReverses.l2])
                            | succ k3 =>
                              have H := HA.out
                              clear HA
                              simp only [payrolllaw35_BookReverses.l2] at H
                              by_cases c37 : x14_3 < 3
                              · rw [if_pos c37] at H
                                have c37b0 : decide (x14_3 < 3) = true := decide_eq_true c37
                                clear c37
                                replace H := Option.bind_eq_some_iff.mp H
                                obtain ⟨t474, A380, H⟩ := H
                                replace H : ((book_Result.f k3 x7_1 x13_2 x14_3).bind fun t477 => ((payrollref32_Same.f k3 t474 t477).bind fun t480 => (if t480 = true then (payrolllaw35_BookReverses.l2 k3 x7_1 t468 x13_2 (wrap64 (x14_3 + 1))) else (none)))) = some r := H
                                have A38 := Aside0.mk A380
                                clear A380
                                replace H := Option.bind_eq_some_iff.mp H
                                obtain ⟨t477, A390, H⟩ := H
                                replace H : ((payrollref32_Same.f k3 t474 t477).bind fun t480 => (if t480 = true then (payrolllaw35_BookReverses.l2 k3 x7_1 t468 x13_2 (wrap64 (x14_3 + 1))) else (none))) = some r := H
                                have A39 := Aside0.mk A390
                                clear A390
                                replace H := Option.bind_eq_some_iff.mp H
                                obtain ⟨t480, A400, H⟩ := H
                                replace H : (if t480 = true then (payrolllaw35_BookReverses.l2 k3 x7_1 t468 x13_2 (wrap64 (x14_3 + 1))) else (none)) = some r := H
                                have A40 := Aside0.mk A400
                                clear A400
                                by_cases c41 : t480 = true
                                · subst c41
                                  have H1 : (payrolllaw35_BookReverses.l2 k3 x7_1 t468 x13_2 (wrap64 (x14_3 + 1))) = some r := by rw [if_pos rfl] at H; exact H
                                  clear H
                                  have H := H1
                                  clear H1
                                  have H' := Aside0.mk H
                                  clear H
                                  go_wp2_with (first | ((with_reducible refine gate_callee (f := 27) rfl ?_); refine goesL_ (some 86) rfl rfl Try.func27 (by kernel_rfl) rfl #[.slice Ao33 t468.length co33, .int .i64 x13_2, .int .i64 x14_3] rfl (by (try simp only [List.map_toArray, List.map_cons, List.map_nil]); first | done | rfl | (simp only [List.length_drop, List.length_take]; rfl)) ?_; (with_reducible refine (book_Result.calls k3 _ _ t468 x13_2 x14_3 t474 _ ?side1 ?side2 A38.out).mono ?_); (case side1 => repeat (first | exact (Kd.R_reads' HO_11.out).2.2 | (with_reducible refine Kd.C_alloc ?_ _) | (with_reducible refine Kd.C_drewN ?_ _) | (with_reducible refine Kd.C_drew ?_))); (case side2 => exact (Kd.R_reads' HO_11.out).2.1); rintro e w42 ⟨v475, rfl, ho0, hb⟩; refine ⟨_, rfl, ?_⟩; have n0_ := Aside0.mk (Kd.R_below (by (with_reducible repeat (first | apply Kd.R_alloc | apply Kd.R_drewN | apply Kd.R_drew)); exact HO_7.out) hb); have n1_ := Aside0.mk (Kd.R_below (by (with_reducible repeat (first | apply Kd.R_alloc | apply Kd.R_drewN | apply Kd.R_drew)); exact HO_11.out) hb); have n2_ := Aside0.mk (Kd.R_lower ho0 (below_size (by repeat (first | (with_reducible first | exact HB.out | apply below_alloc | apply pw_below_drewN | apply below_drew1) | exact HB.out)))); have n3_ := Aside0.mk (below_step (by repeat (first | (with_reducible first | exact HB.out | apply below_alloc | apply pw_below_drewN | apply below_drew1) | exact HB.out)) hb); clear HO_7; clear HO_11; clear HB; have HO_7 := n0_; have HO_11 := n1_; have HO476 := n2_; have HB := n3_; clear n0_ n1_ n2_ n3_; (try clear hb); (try clear hb2); (try clear hk); (try clear hi); (try clear ho0)) | ((with_reducible refine gate_callee (f := 27) rfl ?_); refine goesL_ (some 90) rfl rfl Try.func27 (by kernel_rfl) rfl #[.slice Ao35 x7_1.length co35, .int .i64 x13_2, .int .i64 x14_3] rfl (by (try simp only [List.map_toArray, List.map_cons, List.map_nil]); first | done | rfl | (simp only [List.length_drop, List.length_take]; rfl)) ?_; (with_reducible refine (book_Result.calls k3 _ _ x7_1 x13_2 x14_3 t477 _ ?side1 ?side2 A39.out).mono ?_); (case side1 => repeat (first | exact (Kd.R_reads' HO_7.out).2.2 | (with_reducible refine Kd.C_alloc ?_ _) | (with_reducible refine Kd.C_drewN ?_ _) | (with_reducible refine Kd.C_drew ?_))); (case side2 => exact (Kd.R_reads' HO_7.out).2.1); rintro e w43 ⟨v478, rfl, ho0, hb⟩; refine ⟨_, rfl, ?_⟩; have n0_ := Aside0.mk (Kd.R_below (by (with_reducible repeat (first | apply Kd.R_alloc | apply Kd.R_drewN | apply Kd.R_drew)); exact HO_7.out) hb); have n1_ := Aside0.mk (Kd.R_below (by (with_reducible repeat (first | apply Kd.R_alloc | apply Kd.R_drewN | apply Kd.R_drew)); exact HO_11.out) hb); have n2_ := Aside0.mk (Kd.R_elder' (by (with_reducible repeat (first | apply Kd.R_alloc | apply Kd.R_drewN | apply Kd.R_drew)); exact HO476.out) (Kd.R_base ho0) hb); have n3_ := Aside0.mk (Kd.R_lower (Kd.R_new' ho0 (Kd.R_lt (by (with_reducible repeat (first | apply Kd.R_alloc | apply Kd.R_drewN | apply Kd.R_drew)); exact HO476.out))) (below_size (by repeat (first | (with_reducible first | exact HB.out | apply below_alloc | apply pw_below_drewN | apply below_drew1) | exact HB.out)))); have n4_ := Aside0.mk (below_step (by repeat (first | (with_reducible first | exact HB.out | apply below_alloc | apply pw_below_drewN | apply below_drew1) | exact HB.out)) hb); clear HO_7; clear HO_11; clear HO476; clear HB; have HO_7 := n0_; have HO_11 := n1_; have HO476 := n2_; have HO479 := n3_; have HB := n4_; clear n0_ n1_ n2_ n3_ n4_; (try clear hb); (try clear hb2); (try clear hk); (try clear hi); (try clear ho0); obtain ⟨Ao44, co44, eo44⟩ := Kd.R_slice HO476.out; subst eo44; obtain ⟨Ao45, co45, eo45⟩ := Kd.R_slice HO479.out; subst eo45) | ((with_reducible refine gate_callee (f := 29) rfl ?_); refine goesL_ (some 91) rfl rfl Try.func29 (by kernel_rfl) rfl #[.slice Ao44 t474.length co44, .slice Ao45 t477.length co45] rfl (by (try simp only [List.map_toArray, List.map_cons, List.map_nil]); first | done | rfl | (simp only [List.length_drop, List.length_take]; rfl)) ?_; (with_reducible refine (payrollref32_Same.calls k3 _ _ t474 _ _ t477 true _ ?side1 ?side2 ?side3 ?side4 A40.out).mono ?_); (case side1 => repeat (first | exact (Kd.R_reads' HO476.out).2.2 | (with_reducible refine Kd.C_alloc ?_ _) | (with_reducible refine Kd.C_drewN ?_ _) | (with_reducible refine Kd.C_drew ?_))); (case side2 => exact (Kd.R_reads' HO476.out).2.1); (case side3 => repeat (first | exact (Kd.R_reads' HO479.out).2.2 | (with_reducible refine Kd.C_alloc ?_ _) | (with_reducible refine Kd.C_drewN ?_ _) | (with_reducible refine Kd.C_drew ?_))); (case side4 => exact (Kd.R_reads' HO479.out).2.1); rintro e w' ⟨rfl, ⟨nd, rfl⟩⟩; refine ⟨_, rfl, ?_⟩))
                                  go_roundg k3
                                  case measure => have := HK1.out; have := HK2.out; have := HK3.out; omega
                                  case rel => exact ⟨(wrap64 (x14_3 + 1)), (by first | rfl | (simp; done) | (simp [*]; done)), H', ⟨by have := HK1.out; have := HK2.out; have := HK3.out; omega⟩, ⟨by (with_reducible repeat (first | apply Kd.R_alloc | apply Kd.R_drewN | apply Kd.R_drew)); exact HO_7.out⟩, ⟨by (with_reducible repeat (first | apply Kd.R_alloc | apply Kd.R_drewN | apply Kd.R_drew)); exact HO_11.out⟩, ⟨by repeat (first | (with_reducible first | exact HB.out | apply below_alloc | apply pw_below_drewN | apply below_drew1) | exact HB.out)⟩⟩
                                · replace c41 := Bool.eq_false_iff.mpr c41
                                  subst c41
                                  have H1 : (none) = some r := by rw [if_neg (show ¬ (false = true) by decide)] at H; exact H
                                  clear H
                                  have H := H1
                                  clear H1
                                  exact absurd H (by simp)
                              · rw [if_neg c37] at H
                                have c37b0 : decide (x14_3 < 3) = false := decide_eq_false c37
                                clear c37
                                have H' := Aside0.mk H
                                clear H
                                go_wp2
                                go_roundg k3
                                case measure => have := HK1.out; have := HK2.out; have := HK3.out; omega
                                case rel => exact ⟨(wrap64 (x13_2 + 1)), (by first | rfl | (simp; done) | (simp [*]; done)), H', ⟨by have := HK1.out; have := HK2.out; have := HK3.out; omega⟩, ⟨by (with_reducible repeat (first | apply Kd.R_alloc | apply Kd.R_drewN | apply Kd.R_drew)); exact HO_7.out⟩, ⟨by (with_reducible repeat (first | apply Kd.R_alloc | apply Kd.R_drewN | apply Kd.R_drew)); exact HO_11.out⟩, ⟨by repeat (first | (with_reducible first | exact HB.out | apply below_alloc | apply pw_below_drewN | apply below_drew1) | exact HB.out)⟩⟩
                        · rw [if_neg c32] at H
                          exact absurd H (by simp)
                      · rw [if_neg c29] at H
                        have c29b0 : decide (x13_2 ≤ 3) = false := decide_eq_false c29
                        clear c29
                        replace H := Option.bind_eq_some_iff.mp H
                        obtain ⟨t481, A460, H⟩ := H
                        replace H : (some t481) = some r := H
                        have A46 := Aside0.mk A460
                        clear A460
                        obtain rfl := Option.some.inj H
                        go_wp2_with (first | ((with_reducible refine gate_callee (f := 16) rfl ?_); refine goesL_ (some 93) rfl rfl Try.func16 (by kernel_rfl) rfl #[] rfl (by (try simp only [List.map_toArray, List.map_cons, List.map_nil]); first | done | rfl | (simp only [List.length_drop, List.length_take]; rfl)) ?_; (with_reducible refine (payrolllaw35_awake.calls k2  t481 _ A46.out).mono ?_); rintro e w47 ⟨rfl, hb⟩; refine ⟨_, rfl, ?_⟩; have n0_ := Aside0.mk (Kd.R_below (by (with_reducible repeat (first | apply Kd.R_alloc | apply Kd.R_drewN | apply Kd.R_drew)); exact HO_7.out) hb); have n1_ := Aside0.mk (Kd.R_below (by (with_reducible repeat (first | apply Kd.R_alloc | apply Kd.R_drewN | apply Kd.R_drew)); exact HO_11.out) hb); have n2_ := Aside0.mk (below_step (by repeat (first | (with_reducible first | exact HB.out | apply below_alloc | apply pw_below_drewN | apply below_drew1) | exact HB.out)) hb); clear HO_7; clear HO_11; clear HB; have HO_7 := n0_; have HO_11 := n1_; have HB := n2_; clear n0_ n1_ n2_; (try clear hb); (try clear hb2); (try clear hk); (try clear hi)))
                        go_ret
                        exact ⟨by first | rfl | (simp [errW_none, errW_some] <;> rfl) | (simp [*, errW_none, errW_some] <;> rfl), by repeat (first | (with_reducible first | exact HB.out | apply below_alloc | apply pw_below_drewN | apply below_drew1) | exact HB.out)⟩
                · rw [if_neg c25] at H
                  exact absurd H (by simp)
              · rw [if_neg c24] at H
                exact absurd H (by simp)
      · rw [if_neg c13] at H
        exact absurd H (by simp)
    · rw [if_neg c12] at H
      exact absurd H (by simp)

/-- THE ONE PURE STATEMENT of payrolllaw35_BookReverses: yours. -/
def payrolllaw35_BookReverses.Pure : Prop := ∀ (l0 : List Int) (a1 : Int), l0.length ≤ maxLen → l0.length * 8 ≤ 140737488351232 → (∀ x ∈ l0, (Lit.int .i64 x).wf = true) → (Lit.int .i64 a1).wf = true → ∃ k, payrolllaw35_BookReverses.f k l0 a1 = some true
theorem payrolllaw35_BookReverses.walk (P : payrolllaw35_BookReverses.Pure) (a0 : Option Addr) (len0 cap0 : Nat) (z0 : List Int) (a1 : Int) (w : World) (w0 : (a0 = none ∧ len0 = 0 ∧ cap0 = 0 ∧ z0 = []) ∨ ∃ x, a0 = some x ∧ len0 ≤ cap0 ∧ cap0 ≤ maxLen ∧ z0.length = cap0 ∧ (∀ i, i < z0.length → w.cell? (x.add i) = some (.int .i64 (z0.getD i 0))) ∧ ∀ n ∈ z0, (Lit.int .i64 n).wf = true) (y0 : len0 * 8 ≤ 140737488351232) (w1 : (Lit.int .i64 a1).wf = true) :
    Calls Try.prog 8 #[.slice a0 len0 cap0, .int .i64 a1] w fun e w' => e = .returned (.bool true) ∧ Below w.heap.size w w' := by
  obtain ⟨l0, rfl, hr0, hm0, hw0, hc0⟩ := ReadsInt.ofRowC w0
  obtain ⟨k, h⟩ := P l0 a1 hm0 y0 hw0 w1
  refine (payrolllaw35_BookReverses.calls k _ _ l0 a1 true w (Kd.C_of_reads (d := (0 : Int)) (h1 := fun _ => rfl) hr0) hc0 h).mono ?_
  rintro e w' ⟨rfl, hd⟩
  exact ⟨rfl, hd⟩

end Go.Proofs.Ytelmnkmpkljboaa.Q
