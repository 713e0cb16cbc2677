-- Printed by wip/xprint.py over the translation, with contracts proved by hand among them. Lean checks it.
import Derived.Test.YtdlljjglmcpniaaQx0
import Derived.Test.YtdlljjglmcpniaaQx5
import Derived.Test.YtdlljjglmcpniaaQx6
import Derived.Test.YtdlljjglmcpniaaQx9
import Derived.Test.YtdlljjglmcpniaaQx16
namespace Go.Proofs.Ytdlljjglmcpniaa.Q
open Go.RowKit Go.Proofs.YtdlljjglmcpniaaW.PrintWords Go.Proofs.YtdlljjglmcpniaaW.PrintLast Go.Proofs.YtdlljjglmcpniaaW.PrintMore
attribute [local go_sem] max2_int min2_int max_two min_two max_three min_three max_four min_four   -- for this text's walks alone
set_option linter.unusedVariables false
set_option linter.unusedSimpArgs false

/-! ### payrolllaw37_DeltaNothing: function 6 -/
def payrolllaw37_DeltaNothing.f (k : Nat) (l0 : List Int) (a1 : Int) : Option (Bool) := (paygen_New.f l0).bind fun bt429 => ((paygen_Deck_Lines.f k bt429.1 bt429.2 8).bind fun bt432 => (if (bt432.1.length : Int) = 0 then ((payrolllaw37_awake.f k).bind fun t436 => (some t436)) else ((paygen_Mod.f a1 (bt432.1.length : Int)).bind fun t437 => ((some (([] : List (S56)) : List (S56))).bind fun y438 => (if 0 ≤ t437 then (if t437 ≤ (bt432.1.length : Int) then ((some (bt432.1.drop (t437 : Int).toNat : List (S56))).bind fun y441 => (if y438.length + y441.length < 4398046511104 then ((some (y438 ++ y441 : List (S56))).bind fun y445 => ((some (bt432.1.take (t437 : Int).toNat : List (S56))).bind fun y448 => (if y445.length + y448.length < 4398046511104 then ((payrollref34_Merge.f k bt432.1).bind fun bt455 => ((delta_Postings.f k 1 1 0 bt432.1 (y445 ++ y448)).bind fun bt459 => ((delta_Postings.f k 1 1 0 bt455.1 bt432.1).bind fun bt463 => (if bt459.2 = 0 then (if bt463.2 = 0 then (if (bt459.1.length : Int) = 0 then (if (bt463.1.length : Int) = 0 then ((payrolllaw37_awake.f k).bind fun t467 => (some t467)) else (none)) else (none)) else (none)) else (none))))) else (none)))) else (none))) else (none)) else (none))))))
theorem payrolllaw37_DeltaNothing.mono : ∀ a0 a1 k, LeO (payrolllaw37_DeltaNothing.f k a0 a1) (payrolllaw37_DeltaNothing.f (k + 1) a0 a1) := by
  intro a0 a1 k
  unfold payrolllaw37_DeltaNothing.f
  repeat' first
      | (with_reducible exact delta_Postings.mono _ _ _ _ _ _)
      | (with_reducible exact paygen_Deck_Lines.mono _ _ _ _)
      | (with_reducible exact payrolllaw37_awake.mono _)
      | (with_reducible exact payrollref34_Merge.mono _ _)
      | (with_reducible exact LeO.refl _)
      | (with_reducible exact LeO.none _)
      | (with_reducible refine LeO.ite ?_ ?_)
      | (with_reducible refine LeO.bind ?_ (fun _ => ?_))
      | exact delta_Postings.mono _ _ _ _ _ _
      | exact paygen_Deck_Lines.mono _ _ _ _
      | exact payrolllaw37_awake.mono _
      | exact payrollref34_Merge.mono _ _
      | exact LeO.none _
      | refine LeO.ite ?_ ?_
      | refine LeO.bind ?_ (fun _ => ?_)
def payrolllaw37_DeltaNothing.T5 : Bool × List (List Nat × List Nat) := (true, [([], []), ([], []), ([], []), ([1, 2], [1, 2]), ([0, 3], [0, 3]), ([], []), ([], []), ([5, 6], [5, 6]), ([4, 7, 4], [4, 7]), ([8, 8, 0, 1, 2, 3, 4, 5, 6, 7, 8], [8])])
def payrolllaw37_DeltaNothing.B5 : List Nat := [0, 0, 0, 6, 15, 0, 0, 96, 255, 511]
theorem payrolllaw37_DeltaNothing.tab5 : rtab .any (opsOf Try.f6 5) = payrolllaw37_DeltaNothing.T5 := by kernel_rfl
theorem payrolllaw37_DeltaNothing.bits5 : waitsOk payrolllaw37_DeltaNothing.T5.2 payrolllaw37_DeltaNothing.B5 = true := by kernel_rfl
set_option maxHeartbeats 8000000 in
set_option maxRecDepth 100000 in
theorem payrolllaw37_DeltaNothing.calls (k : Nat) (A0 : Option Addr) (c0 : Nat) (l0 : List Int) (a1 : Int) (r : Bool) (w : World) (hr0 : Kd.C (Kd.int .i64) w A0 l0.length l0) (hc0 : l0.length ≤ c0) (h : payrolllaw37_DeltaNothing.f k l0 a1 = some r) :
    Calls Try.prog 6 #[.slice A0 l0.length c0, .int .i64 a1] w fun e w' => e = .returned (.bool r) ∧ Below w.heap.size w w' := by
  have HR0 := Aside0.mk hr0
  have HC0 := Aside0.mk hc0
  clear hr0 hc0
  have HB := Aside0.mk (Below.refl w.heap.size w)
  have H : ((paygen_New.f l0).bind fun bt429 => ((paygen_Deck_Lines.f k bt429.1 bt429.2 8).bind fun bt432 => (if (bt432.1.length : Int) = 0 then ((payrolllaw37_awake.f k).bind fun t436 => (some t436)) else ((paygen_Mod.f a1 (bt432.1.length : Int)).bind fun t437 => ((some (([] : List (S56)) : List (S56))).bind fun y438 => (if 0 ≤ t437 then (if t437 ≤ (bt432.1.length : Int) then ((some (bt432.1.drop (t437 : Int).toNat : List (S56))).bind fun y441 => (if y438.length + y441.length < 4398046511104 then ((some (y438 ++ y441 : List (S56))).bind fun y445 => ((some (bt432.1.take (t437 : Int).toNat : List (S56))).bind fun y448 => (if y445.length + y448.length < 4398046511104 then ((payrollref34_Merge.f k bt432.1).bind fun bt455 => ((delta_Postings.f k 1 1 0 bt432.1 (y445 ++ y448)).bind fun bt459 => ((delta_Postings.f k 1 1 0 bt455.1 bt432.1).bind fun bt463 => (if bt459.2 = 0 then (if bt463.2 = 0 then (if (bt459.1.length : Int) = 0 then (if (bt463.1.length : Int) = 0 then ((payrolllaw37_awake.f k).bind fun t467 => (some t467)) else (none)) else (none)) else (none)) else (none))))) else (none)))) else (none))) else (none)) else (none))))))) = some r := h
  clear h
  replace H := Option.bind_eq_some_iff.mp H
  obtain ⟨⟨t429, t430⟩, A30, H⟩ := H
  replace H : ((paygen_Deck_Lines.f k t429 t430 8).bind fun bt432 => (if (bt432.1.length : Int) = 0 then ((payrolllaw37_awake.f k).bind fun t436 => (some t436)) else ((paygen_Mod.f a1 (bt432.1.length : Int)).bind fun t437 => ((some (([] : List (S56)) : List (S56))).bind fun y438 => (if 0 ≤ t437 then (if t437 ≤ (bt432.1.length : Int) then ((some (bt432.1.drop (t437 : Int).toNat : List (S56))).bind fun y441 => (if y438.length + y441.length < 4398046511104 then ((some (y438 ++ y441 : List (S56))).bind fun y445 => ((some (bt432.1.take (t437 : Int).toNat : List (S56))).bind fun y448 => (if y445.length + y448.length < 4398046511104 then ((payrollref34_Merge.f k bt432.1).bind fun bt455 => ((delta_Postings.f k 1 1 0 bt432.1 (y445 ++ y448)).bind fun bt459 => ((delta_Postings.f k 1 1 0 bt455.1 bt432.1).bind fun bt463 => (if bt459.2 = 0 then (if bt463.2 = 0 then (if (bt459.1.length : Int) = 0 then (if (bt463.1.length : Int) = 0 then ((payrolllaw37_awake.f k).bind fun t467 => (some t467)) else (none)) else (none)) else (none)) else (none))))) else (none)))) else (none))) else (none)) else (none)))))) = some r := H
  have A3 := Aside0.mk A30
  clear A30
  replace H := Option.bind_eq_some_iff.mp H
  obtain ⟨⟨t432, t435⟩, A40, H⟩ := H
  replace H : (if (t432.length : Int) = 0 then ((payrolllaw37_awake.f k).bind fun t436 => (some t436)) else ((paygen_Mod.f a1 (t432.length : Int)).bind fun t437 => ((some (([] : List (S56)) : List (S56))).bind fun y438 => (if 0 ≤ t437 then (if t437 ≤ (t432.length : Int) then ((some (t432.drop (t437 : Int).toNat : List (S56))).bind fun y441 => (if y438.length + y441.length < 4398046511104 then ((some (y438 ++ y441 : List (S56))).bind fun y445 => ((some (t432.take (t437 : Int).toNat : List (S56))).bind fun y448 => (if y445.length + y448.length < 4398046511104 then ((payrollref34_Merge.f k t432).bind fun bt455 => ((delta_Postings.f k 1 1 0 t432 (y445 ++ y448)).bind fun bt459 => ((delta_Postings.f k 1 1 0 bt455.1 t432).bind fun bt463 => (if bt459.2 = 0 then (if bt463.2 = 0 then (if (bt459.1.length : Int) = 0 then (if (bt463.1.length : Int) = 0 then ((payrolllaw37_awake.f k).bind fun t467 => (some t467)) else (none)) else (none)) else (none)) else (none))))) else (none)))) else (none))) else (none)) else (none))))) = some r := H
  have A4 := Aside0.mk A40
  clear A40
  by_cases c5 : (t432.length : Int) = 0
  · rw [if_pos c5] at H
    have c5b0 : ((t432.length : Int) == 0) = true := beq_iff_eq.mpr c5
    have c5b1 : ((t432.length : Int) != 0) = false := bne_eq_false_iff_eq.mpr c5
    clear c5
    replace H := Option.bind_eq_some_iff.mp H
    obtain ⟨t436, A60, H⟩ := H
    replace H : (some t436) = some r := H
    have A6 := Aside0.mk A60
    clear A60
    obtain rfl := Option.some.inj H
    go_enter Try.func6, Try.ntmps6
    go_wp2_with (first | ((with_reducible refine gate_callee (f := 13) rfl ?_); refine goesL_ (some 15) rfl rfl Try.func13 (by kernel_rfl) rfl #[.slice A0 l0.length c0] rfl (by (try simp only [List.map_toArray, List.map_cons, List.map_nil]); first | done | rfl | (simp only [List.length_drop, List.length_take]; rfl)) ?_; (with_reducible refine (paygen_New.calls _ _ l0 t429 t430 w _ ?side1 ?side2 ?side3 A3.out).mono ?_); (case side1 => repeat (first | (with_reducible first | exact HB.out | apply below_alloc | apply pw_below_drewN | apply below_drew1) | exact HB.out)); (case side2 => exact HR0.out); (case side3 => exact HC0.out); rintro e w7 ⟨g431, rfl, hi, hb, hb2⟩; refine ⟨_, rfl, ?_⟩; have n0_ := Aside0.mk (hb); have n1_ := Aside0.mk (hi); clear HB; have HB := n0_; have HI431 := n1_; clear n0_ n1_; (try clear hb); (try clear hb2); (try clear hk); (try clear hi)) | ((with_reducible refine gate_callee (f := 14) rfl ?_); refine goesL_ (some 16) rfl rfl Try.func14 (by kernel_rfl) rfl #[.pointer (some ⟨g431, 0, none⟩), .int .i64 8] rfl (by (try simp only [List.map_toArray, List.map_cons, List.map_nil]); first | done | rfl | (simp only [List.length_drop, List.length_take]; rfl)) ?_; (with_reducible refine (paygen_Deck_Lines.calls k g431 t429 t430 8 t432 t435 w _ ?side1 ?side2 A4.out).mono ?_); (case side1 => repeat (first | (with_reducible first | exact HI431.out | apply IsS60.alloc | apply IsS60.drewN | apply IsS60.drew | apply IsS60.set_1) | exact HI431.out)); (case side2 => repeat (first | (with_reducible first | exact HB.out | apply below_alloc | apply pw_below_drewN | apply below_drew1 | refine below_set ?_ (IsS60.ge HI431.out)) | exact HB.out)); rintro e w8 ⟨v433, rfl, ho0, hi, hb, hk⟩; refine ⟨_, rfl, ?_⟩; have n0_ := Aside0.mk (Kd.R_lower ho0 (below_size (by repeat (first | (with_reducible first | exact HB.out | apply below_alloc | apply pw_below_drewN | apply below_drew1 | refine below_set ?_ (IsS60.ge HI431.out)) | exact HB.out)))); have n1_ := Aside0.mk (hb); have n2_ := Aside0.mk (hi); clear HB; clear HI431; have HO434 := n0_; have HB := n1_; have HI431 := n2_; clear n0_ n1_ n2_; (try clear hb); (try clear hb2); (try clear hk); (try clear hi); (try clear ho0); obtain ⟨Ao9, co9, eo9⟩ := Kd.R_slice HO434.out; subst eo9) | ((with_reducible refine gate_callee (f := 12) rfl ?_); refine goesL_ (some 20) rfl rfl Try.func12 (by kernel_rfl) rfl #[] rfl (by (try simp only [List.map_toArray, List.map_cons, List.map_nil]); first | done | rfl | (simp only [List.length_drop, List.length_take]; rfl)) ?_; (with_reducible refine (payrolllaw37_awake.calls k  t436 _ A6.out).mono ?_); rintro e w10 ⟨rfl, hb⟩; refine ⟨_, rfl, ?_⟩; have n0_ := Aside0.mk (Kd.R_below (by (with_reducible repeat (first | apply Kd.R_alloc | apply Kd.R_drewN | apply Kd.R_drew)); exact HO434.out) hb); have n1_ := Aside0.mk (IsS60.below (by repeat (first | (with_reducible first | exact HI431.out | apply IsS60.alloc | apply IsS60.drewN | apply IsS60.drew | apply IsS60.set_1) | exact HI431.out)) hb); have n2_ := Aside0.mk (below_step (by repeat (first | (with_reducible first | exact HB.out | apply below_alloc | apply pw_below_drewN | apply below_drew1 | refine below_set ?_ (IsS60.ge HI431.out)) | exact HB.out)) hb); clear HO434; clear HI431; clear HB; have HO434 := n0_; have HI431 := n1_; have HB := n2_; clear n0_ n1_ n2_; (try clear hb); (try clear hb2); (try clear hk); (try clear hi)))
    go_ret
    exact ⟨by first | rfl | (simp [errW_none, errW_some] <;> rfl) | (simp [*, errW_none, errW_some] <;> rfl), by repeat (first | (with_reducible first | exact HB.out | apply below_alloc | apply pw_below_drewN | apply below_drew1 | refine below_set ?_ (IsS60.ge HI431.out)) | exact HB.out)⟩
  · rw [if_neg c5] at H
    have c5b0 : ((t432.length : Int) == 0) = false := beq_eq_false_iff_ne.mpr c5
    have c5b1 : ((t432.length : Int) != 0) = true := bne_iff_ne.mpr c5
    have c5b2 : ¬ (t432 = []) := fun h_ => c5 (by rw [h_]; rfl)
    replace H := Option.bind_eq_some_iff.mp H
    obtain ⟨t437, A110, H⟩ := H
    replace H : ((some (([] : List (S56)) : List (S56))).bind fun y438 => (if 0 ≤ t437 then (if t437 ≤ (t432.length : Int) then ((some (t432.drop (t437 : Int).toNat : List (S56))).bind fun y441 => (if y438.length + y441.length < 4398046511104 then ((some (y438 ++ y441 : List (S56))).bind fun y445 => ((some (t432.take (t437 : Int).toNat : List (S56))).bind fun y448 => (if y445.length + y448.length < 4398046511104 then ((payrollref34_Merge.f k t432).bind fun bt455 => ((delta_Postings.f k 1 1 0 t432 (y445 ++ y448)).bind fun bt459 => ((delta_Postings.f k 1 1 0 bt455.1 t432).bind fun bt463 => (if bt459.2 = 0 then (if bt463.2 = 0 then (if (bt459.1.length : Int) = 0 then (if (bt463.1.length : Int) = 0 then ((payrolllaw37_awake.f k).bind fun t467 => (some t467)) else (none)) else (none)) else (none)) else (none))))) else (none)))) else (none))) else (none)) else (none))) = some r := H
    have A11 := Aside0.mk A110
    clear A110
    obtain ⟨y438, hy438⟩ : ∃ y_ : List (S56), y_ = (([] : List (S56))) := ⟨_, rfl⟩
    replace H : (if 0 ≤ t437 then (if t437 ≤ (t432.length : Int) then ((some (t432.drop (t437 : Int).toNat : List (S56))).bind fun y441 => (if y438.length + y441.length < 4398046511104 then ((some (y438 ++ y441 : List (S56))).bind fun y445 => ((some (t432.take (t437 : Int).toNat : List (S56))).bind fun y448 => (if y445.length + y448.length < 4398046511104 then ((payrollref34_Merge.f k t432).bind fun bt455 => ((delta_Postings.f k 1 1 0 t432 (y445 ++ y448)).bind fun bt459 => ((delta_Postings.f k 1 1 0 bt455.1 t432).bind fun bt463 => (if bt459.2 = 0 then (if bt463.2 = 0 then (if (bt459.1.length : Int) = 0 then (if (bt463.1.length : Int) = 0 then ((payrolllaw37_awake.f k).bind fun t467 => (some t467)) else (none)) else (none)) else (none)) else (none))))) else (none)))) else (none))) else (none)) else (none)) = some r := by first | (rw [hy438]; with_reducible exact H) | (have H2_ := (Option.bind_some _ _).symm.trans H; rw [hy438]; with_reducible exact H2_) | (have H2_ := (Option.bind_some _ _).symm.trans H; with_reducible exact H2_) | with_reducible exact H | (rw [hy438]; exact H) | exact H
    have Ny438 := Aside0.mk hy438
    clear hy438
    by_cases c12 : 0 ≤ t437
    · rw [if_pos c12] at H
      have c12b0 := eq_true c12
      have c12b1 : decide (0 ≤ t437) = true := decide_eq_true c12
      clear c12
      by_cases c13 : t437 ≤ (t432.length : Int)
      · rw [if_pos c13] at H
        have c13b0 := eq_true c13
        have c13b1 : decide (t437 ≤ (t432.length : Int)) = true := decide_eq_true c13
        clear c13
        obtain ⟨y441, hy441⟩ : ∃ y_ : List (S56), y_ = (t432.drop (t437 : Int).toNat) := ⟨_, rfl⟩
        replace H : (if y438.length + y441.length < 4398046511104 then ((some (y438 ++ y441 : List (S56))).bind fun y445 => ((some (t432.take (t437 : Int).toNat : List (S56))).bind fun y448 => (if y445.length + y448.length < 4398046511104 then ((payrollref34_Merge.f k t432).bind fun bt455 => ((delta_Postings.f k 1 1 0 t432 (y445 ++ y448)).bind fun bt459 => ((delta_Postings.f k 1 1 0 bt455.1 t432).bind fun bt463 => (if bt459.2 = 0 then (if bt463.2 = 0 then (if (bt459.1.length : Int) = 0 then (if (bt463.1.length : Int) = 0 then ((payrolllaw37_awake.f k).bind fun t467 => (some t467)) else (none)) else (none)) else (none)) else (none))))) else (none)))) else (none)) = some r := by first | (rw [hy441]; with_reducible exact H) | (have H2_ := (Option.bind_some _ _).symm.trans H; rw [hy441]; with_reducible exact H2_) | (have H2_ := (Option.bind_some _ _).symm.trans H; with_reducible exact H2_) | with_reducible exact H | (rw [hy441]; exact H) | exact H
        have Ny441 := Aside0.mk hy441
        clear hy441
        by_cases c14 : y438.length + y441.length < 4398046511104
        · rw [if_pos c14] at H
          have LMc14 := Aside0.mk c14
          clear c14
          obtain ⟨y445, hy445⟩ : ∃ y_ : List (S56), y_ = (y438 ++ y441) := ⟨_, rfl⟩
          replace H : ((some (t432.take (t437 : Int).toNat : List (S56))).bind fun y448 => (if y445.length + y448.length < 4398046511104 then ((payrollref34_Merge.f k t432).bind fun bt455 => ((delta_Postings.f k 1 1 0 t432 (y445 ++ y448)).bind fun bt459 => ((delta_Postings.f k 1 1 0 bt455.1 t432).bind fun bt463 => (if bt459.2 = 0 then (if bt463.2 = 0 then (if (bt459.1.length : Int) = 0 then (if (bt463.1.length : Int) = 0 then ((payrolllaw37_awake.f k).bind fun t467 => (some t467)) else (none)) else (none)) else (none)) else (none))))) else (none))) = some r := by first | (rw [hy445]; with_reducible exact H) | (have H2_ := (Option.bind_some _ _).symm.trans H; rw [hy445]; with_reducible exact H2_) | (have H2_ := (Option.bind_some _ _).symm.trans H; with_reducible exact H2_) | with_reducible exact H | (rw [hy445]; exact H) | exact H
          have Ny445 := Aside0.mk hy445
          clear hy445
          have c15b0 := eq_true (of_decide_eq_true (by first | (with_reducible assumption) | assumption) : 0 ≤ t437)
          have c16b0 := eq_true (of_decide_eq_true (by first | (with_reducible assumption) | assumption) : t437 ≤ (t432.length : Int))
          obtain ⟨y448, hy448⟩ : ∃ y_ : List (S56), y_ = (t432.take (t437 : Int).toNat) := ⟨_, rfl⟩
          replace H : (if y445.length + y448.length < 4398046511104 then ((payrollref34_Merge.f k t432).bind fun bt455 => ((delta_Postings.f k 1 1 0 t432 (y445 ++ y448)).bind fun bt459 => ((delta_Postings.f k 1 1 0 bt455.1 t432).bind fun bt463 => (if bt459.2 = 0 then (if bt463.2 = 0 then (if (bt459.1.length : Int) = 0 then (if (bt463.1.length : Int) = 0 then ((payrolllaw37_awake.f k).bind fun t467 => (some t467)) else (none)) else (none)) else (none)) else (none))))) else (none)) = some r := by first | (rw [hy448]; with_reducible exact H) | (have H2_ := (Option.bind_some _ _).symm.trans H; rw [hy448]; with_reducible exact H2_) | (have H2_ := (Option.bind_some _ _).symm.trans H; with_reducible exact H2_) | with_reducible exact H | (rw [hy448]; exact H) | exact H
          have Ny448 := Aside0.mk hy448
          clear hy448
          by_cases c17 : y445.length + y448.length < 4398046511104
          · rw [if_pos c17] at H
            have LMc17 := Aside0.mk c17
            clear c17
            obtain ⟨y452, hy452⟩ : ∃ y_ : List (S56), y_ = (y445 ++ y448) := ⟨_, rfl⟩
            replace H : ((payrollref34_Merge.f k t432).bind fun bt455 => ((delta_Postings.f k 1 1 0 t432 y452).bind fun bt459 => ((delta_Postings.f k 1 1 0 bt455.1 t432).bind fun bt463 => (if bt459.2 = 0 then (if bt463.2 = 0 then (if (bt459.1.length : Int) = 0 then (if (bt463.1.length : Int) = 0 then ((payrolllaw37_awake.f k).bind fun t467 => (some t467)) else (none)) else (none)) else (none)) else (none))))) = some r := by first | (rw [hy452]; with_reducible exact H) | (have H2_ := (Option.bind_some _ _).symm.trans H; rw [hy452]; with_reducible exact H2_) | (have H2_ := (Option.bind_some _ _).symm.trans H; with_reducible exact H2_) | with_reducible exact H | (rw [hy452]; exact H) | exact H
            have Ny452 := Aside0.mk hy452
            clear hy452
            replace H := Option.bind_eq_some_iff.mp H
            obtain ⟨⟨t455, t456⟩, A180, H⟩ := H
            replace H : ((delta_Postings.f k 1 1 0 t432 y452).bind fun bt459 => ((delta_Postings.f k 1 1 0 t455 t432).bind fun bt463 => (if bt459.2 = 0 then (if bt463.2 = 0 then (if (bt459.1.length : Int) = 0 then (if (bt463.1.length : Int) = 0 then ((payrolllaw37_awake.f k).bind fun t467 => (some t467)) else (none)) else (none)) else (none)) else (none)))) = some r := H
            have A18 := Aside0.mk A180
            clear A180
            replace H := Option.bind_eq_some_iff.mp H
            obtain ⟨⟨t459, t460⟩, A190, H⟩ := H
            replace H : ((delta_Postings.f k 1 1 0 t455 t432).bind fun bt463 => (if t460 = 0 then (if bt463.2 = 0 then (if (t459.length : Int) = 0 then (if (bt463.1.length : Int) = 0 then ((payrolllaw37_awake.f k).bind fun t467 => (some t467)) else (none)) else (none)) else (none)) else (none))) = some r := H
            have A19 := Aside0.mk A190
            clear A190
            replace H := Option.bind_eq_some_iff.mp H
            obtain ⟨⟨t463, t464⟩, A200, H⟩ := H
            replace H : (if t460 = 0 then (if t464 = 0 then (if (t459.length : Int) = 0 then (if (t463.length : Int) = 0 then ((payrolllaw37_awake.f k).bind fun t467 => (some t467)) else (none)) else (none)) else (none)) else (none)) = some r := H
            have A20 := Aside0.mk A200
            clear A200
            by_cases c21 : t460 = 0
            · rw [if_pos c21] at H
              have c21b0 : (t460 == 0) = true := beq_iff_eq.mpr c21
              have c21b1 : (t460 != 0) = false := bne_eq_false_iff_eq.mpr c21
              clear c21
              by_cases c22 : t464 = 0
              · rw [if_pos c22] at H
                have c22b0 : (t464 == 0) = true := beq_iff_eq.mpr c22
                have c22b1 : (t464 != 0) = false := bne_eq_false_iff_eq.mpr c22
                clear c22
                by_cases c23 : (t459.length : Int) = 0
                · rw [if_pos c23] at H
                  have c23b0 : ((t459.length : Int) == 0) = true := beq_iff_eq.mpr c23
                  have c23b1 : ((t459.length : Int) != 0) = false := bne_eq_false_iff_eq.mpr c23
                  clear c23
                  by_cases c24 : (t463.length : Int) = 0
                  · rw [if_pos c24] at H
                    have c24b0 : ((t463.length : Int) == 0) = true := beq_iff_eq.mpr c24
                    have c24b1 : ((t463.length : Int) != 0) = false := bne_eq_false_iff_eq.mpr c24
                    clear c24
                    replace H := Option.bind_eq_some_iff.mp H
                    obtain ⟨t467, A250, H⟩ := H
                    replace H : (some t467) = some r := H
                    have A25 := Aside0.mk A250
                    clear A250
                    obtain rfl := Option.some.inj H
                    go_enter Try.func6, Try.ntmps6
                    try go_wp2_with (first | ((with_reducible refine gate_callee (f := 13) rfl ?_); refine goesL_ (some 15) rfl rfl Try.func13 (by kernel_rfl) rfl #[.slice A0 l0.length c0] rfl (by (try simp only [List.map_toArray, List.map_cons, List.map_nil]); first | done | rfl | (simp only [List.length_drop, List.length_take]; rfl)) ?_; (with_reducible refine (paygen_New.calls _ _ l0 t429 t430 w _ ?side1 ?side2 ?side3 A3.out).mono ?_); (case side1 => repeat (first | (with_reducible first | exact HB.out | apply below_alloc | apply pw_below_drewN | apply below_drew1) | exact HB.out)); (case side2 => exact HR0.out); (case side3 => exact HC0.out); rintro e w26 ⟨g431, rfl, hi, hb, hb2⟩; refine ⟨_, rfl, ?_⟩; have n0_ := Aside0.mk (hb); have n1_ := Aside0.mk (hi); clear HB; have HB := n0_; have HI431 := n1_; clear n0_ n1_; (try clear hb); (try clear hb2); (try clear hk); (try clear hi)) | ((with_reducible refine gate_callee (f := 14) rfl ?_); refine goesL_ (some 16) rfl rfl Try.func14 (by kernel_rfl) rfl #[.pointer (some ⟨g431, 0, none⟩), .int .i64 8] rfl (by (try simp only [List.map_toArray, List.map_cons, List.map_nil]); first | done | rfl | (simp only [List.length_drop, List.length_take]; rfl)) ?_; (with_reducible refine (paygen_Deck_Lines.calls k g431 t429 t430 8 t432 t435 w _ ?side1 ?side2 A4.out).mono ?_); (case side1 => repeat (first | (with_reducible first | exact HI431.out | apply IsS60.alloc | apply IsS60.drewN | apply IsS60.drew | apply IsS60.set_1) | exact HI431.out)); (case side2 => repeat (first | (with_reducible first | exact HB.out | apply below_alloc | apply pw_below_drewN | apply below_drew1 | refine below_set ?_ (IsS60.ge HI431.out)) | exact HB.out)); rintro e w27 ⟨v433, rfl, ho0, hi, hb, hk⟩; refine ⟨_, rfl, ?_⟩; have n0_ := Aside0.mk (Kd.R_lower ho0 (below_size (by repeat (first | (with_reducible first | exact HB.out | apply below_alloc | apply pw_below_drewN | apply below_drew1 | refine below_set ?_ (IsS60.ge HI431.out)) | exact HB.out)))); have n1_ := Aside0.mk (hb); have n2_ := Aside0.mk (hi); clear HB; clear HI431; have HO434 := n0_; have HB := n1_; have HI431 := n2_; clear n0_ n1_ n2_; (try clear hb); (try clear hb2); (try clear hk); (try clear hi); (try clear ho0); obtain ⟨Ao28, co28, eo28⟩ := Kd.R_slice HO434.out; subst eo28) | ((with_reducible refine gate_callee (f := 24) rfl ?_); refine goesL_ (some 24) rfl rfl Try.func24 (by kernel_rfl) rfl #[.int .i64 a1, .int .i64 (t432.length : Int)] rfl (by (try simp only [List.map_toArray, List.map_cons, List.map_nil]); first | done | rfl | (simp only [List.length_drop, List.length_take]; rfl)) ?_; (with_reducible refine (paygen_Mod.calls a1 (t432.length : Int) t437 _ A11.out).mono ?_); rintro e w' ⟨rfl, ⟨nd, rfl⟩⟩; refine ⟨_, rfl, ?_⟩))
                    (try (rw [drewN_self w27]; generalize hq_ : World.drewN w27 _ = w27; have n0_ : Aside0 (Kd.R k56 56 w27 w.heap.size (fun _ => True) (.slice Ao28 t432.length co28) t432) := ⟨by rw [← hq_]; exact (by (with_reducible repeat (first | apply Kd.R_alloc | apply Kd.R_drewN | apply Kd.R_drew)); exact HO434.out)⟩; have n1_ : Aside0 (IsS60 w w27 g431 t429 t435) := ⟨by rw [← hq_]; exact (by repeat (first | (with_reducible first | exact HI431.out | apply IsS60.alloc | apply IsS60.drewN | apply IsS60.drew | apply IsS60.set_1) | exact HI431.out))⟩; have n2_ : Aside0 (Below w.heap.size w w27) := ⟨by rw [← hq_]; exact (by repeat (first | (with_reducible first | exact HB.out | apply below_alloc | apply pw_below_drewN | apply below_drew1 | refine below_set ?_ (IsS60.ge HI431.out)) | exact HB.out))⟩; clear HO434 HI431 HB hq_; have HO434 := n0_; have HI431 := n1_; have HB := n2_; clear n0_ n1_ n2_))
                    have n0_ := Aside0.mk (Kd.R_drew HO434.out)
                    have n1_ := Aside0.mk (IsS60.drew HI431.out)
                    have n2_ := Aside0.mk (below_drew1 HB.out)
                    clear HO434
                    clear HI431
                    clear HB
                    have HO434 := n0_
                    have HI431 := n1_
                    have HB := n2_
                    clear n0_ n1_ n2_
                    have q30 : (t437 : Int) ≤ ((t432.length : Int) : Int) := of_decide_eq_true (by first | (with_reducible assumption) | assumption)
                    obtain ⟨i030, hi030, _, hsz30, _⟩ := info_parts info56
                    have hroom30 : t432.length ≤ co28 := (Kd.R_reads' HO434.out).2.1
                    have hC30 : Kd.C k56 _ Ao28 t432.length t432 := (Kd.R_reads' HO434.out).2.2
                    have q030 : (0 : Int) ≤ (t437 : Int) := of_decide_eq_true (by first | (with_reducible assumption) | assumption)
                    have hcut30 := cut_from (P := Try.prog) 23 56 .i64 Try.underlying23 hi030 3 hsz30 Ao28 t432.length co28 t437 q030 q30
                    have hr30 := Kd.C_drop (m := (t437 : Int).toNat) (c := co28) hC30 (by omega) hroom30
                    obtain ⟨A30, hA30⟩ : ∃ A1, A1 = (if co28 = (t437 : Int).toNat then Ao28 else (Ao28 : Option Addr).map (·.add ((t437 : Int).toNat * 3))) := ⟨_, rfl⟩
                    obtain ⟨c30, hc30⟩ : ∃ c1, c1 = co28 - (t437 : Int).toNat := ⟨_, rfl⟩
                    have hy30 : y441.length = t432.length - (t437 : Int).toNat := (by rw [Ny441.out, List.length_drop] <;> omega)
                    rw [show (t432).drop (t437 : Int).toNat = y441 from Ny441.out.symm] at hr30
                    replace hr30 : Kd.C k56 _ A30 y441.length y441 := (by rw [hA30]; exact hr30)
                    rw [← hy30, ← hA30, ← hc30] at hcut30
                    have HR444 := Aside0.mk hr30
                    have HC444 := Aside0.mk (show y441.length ≤ c30 from by rw [hy30, hc30]; exact Nat.sub_le_sub_right hroom30 _)
                    clear hr30 hC30 hroom30 hi030 hsz30 hc30
                    have KY30 := Aside0.mk hy30
                    have KA30 := Aside0.mk hA30
                    clear hy30 hA30
                    have KL30 := Aside0.mk (show (t437 : Int).toNat ≤ t432.length from by omega)
                    replace q30 := eq_true q30
                    have q31 : (t437 : Int) ≤ ((t432.length : Int) : Int) := of_decide_eq_true (by first | (with_reducible assumption) | assumption)
                    obtain ⟨i031, hi031, _, hsz31, _⟩ := info_parts info56
                    have hroom31 : t432.length ≤ co28 := (Kd.R_reads' HO434.out).2.1
                    have hC31 : Kd.C k56 _ Ao28 t432.length t432 := (Kd.R_reads' HO434.out).2.2
                    have hcut31 := cut_to (P := Try.prog) 23 56 .i64 Try.underlying23 hi031 Ao28 t432.length co28 t437 (of_decide_eq_true (by first | (with_reducible assumption) | assumption)) q31 hroom31
                    have hr31 := Kd.C_take (m := (t437 : Int).toNat) hC31 (by omega)
                    have hy31 : y448.length = (t437 : Int).toNat := (by rw [Ny448.out, List.length_take]; omega)
                    rw [← Ny448.out] at hr31
                    rw [← hy31] at hcut31
                    have HR451 := Aside0.mk hr31
                    have HC451 := Aside0.mk (show y448.length ≤ co28 from by omega)
                    clear hr31 hC31 hroom31 hi031 hsz31
                    have KY31 := Aside0.mk hy31
                    clear hy31
                    have KL31 := Aside0.mk (show (t437 : Int).toNat ≤ t432.length from by omega)
                    replace q31 := eq_true q31
                    refine start_ (n := 10) (S := fun w' => True) (ds := []) #[false, false, false, false, false, false, false, false, false, false] (by kernel_rfl) rfl rfl trivial (fun hHeld => ?_); refine with_tabW payrolllaw37_DeltaNothing.tab5 payrolllaw37_DeltaNothing.bits5 (fun HT_ HW_ => ?_)
                    generalize w27.drew = w29 at HO434 HI431 HB HR444 HR451 hHeld ⊢
                    refine pure_ (i := 1) (N := some 26) (v := ?_) (a' := ?_) #[false, true, false, false, false, false, false, false, false, false] rfl rfl (any_of HT_.out (by kernel_rfl)) (fun _ _ _ h => h) (Or.inl ⟨by rfl, ?_⟩) ?_ ?_
                    rotate_left
                    · intro w'
                      go_simp
                      with_reducible rfl
                    rotate_left
                    · simp only [Act.put, List.setIfInBounds_toArray, List.set_cons_zero, List.set_cons_succ, i64_w, i32_w]
                      rfl
                    refine pure_ (i := 2) (N := some 27) (v := ?_) (a' := ?_) #[false, true, true, false, false, false, false, false, false, false] rfl rfl (any_of HT_.out (by kernel_rfl)) (fun _ _ _ h => h) (Or.inl ⟨by rfl, ?_⟩) ?_ ?_
                    rotate_left
                    · intro w'
                      go_simp
                      with_reducible rfl
                    rotate_left
                    · simp only [Act.put, List.setIfInBounds_toArray, List.set_cons_zero, List.set_cons_succ, i64_w, i32_w]
                      rfl
                    refine pure_ (i := 3) (N := some 28) (v := ?_) (a' := ?_) #[false, true, true, true, false, false, false, false, false, false] rfl rfl (any_of HT_.out (by kernel_rfl)) (fun _ _ _ h => h) (Or.inl ⟨by rfl, ?_⟩) ?_ ?_
                    rotate_left
                    · intro w'
                      go_simp
                      with_reducible rfl
                    rotate_left
                    · simp only [Act.put, List.setIfInBounds_toArray, List.set_cons_zero, List.set_cons_succ, i64_w, i32_w]
                      rfl
                    refine pure_ (i := 5) (N := some 30) (v := ?_) (a' := ?_) #[false, true, true, true, false, true, false, false, false, false] rfl rfl (any_of HT_.out (by kernel_rfl)) (fun _ _ _ h => h) (Or.inl ⟨by rfl, ?_⟩) ?_ ?_
                    rotate_left
                    · intro w'
                      go_simp
                      with_reducible rfl
                    rotate_left
                    · simp only [Act.put, List.setIfInBounds_toArray, List.set_cons_zero, List.set_cons_succ, i64_w, i32_w]
                      rfl
                    refine pure_ (i := 6) (N := some 31) (v := ?_) (a' := ?_) #[false, true, true, true, false, true, true, false, false, false] rfl rfl (any_of HT_.out (by kernel_rfl)) (fun _ _ _ h => h) (Or.inl ⟨by rfl, ?_⟩) ?_ ?_
                    rotate_left
                    · intro w'
                      go_simp
                      with_reducible rfl
                    rotate_left
                    · simp only [Act.put, List.setIfInBounds_toArray, List.set_cons_zero, List.set_cons_succ, i64_w, i32_w]
                      rfl
                    refine pure_ (i := 7) (N := some 32) (v := ?_) (a' := ?_) #[false, true, true, true, false, true, true, true, false, false] rfl rfl (any_of HT_.out (by kernel_rfl)) (fun _ _ _ h => h) (Or.inl ⟨by rfl, ?_⟩) ?_ ?_
                    rotate_left
                    · intro w'
                      go_simp
                      with_reducible rfl
                    rotate_left
                    · simp only [Act.put, List.setIfInBounds_toArray, List.set_cons_zero, List.set_cons_succ, i64_w, i32_w]
                      rfl
                    refine one_ (i := 0) (N := some 25) #[true, true, true, true, false, true, true, true, false, false] rfl rfl (one_of HT_.out (by kernel_rfl)) (by decide) (fun K hK => ?_)
                    refine Kd.R_lit_step k56 _ 56 ?hg (N := 25) ?hd (xs := ([] : List (S56))) (inner := []) (ok := fun _ => True) (okp := fun _ => True) ?hr ?hp (fun _ hk => hk) trivial (Below.refl _ _) (Nat.le_refl _) (by simp) ?_; (case hd => rfl); (case hg => rfl); (case hr => first | (go_simp; done) | (go_simp; rfl)); (case hp => exact (Reps.none _ _))
                    intro v439 w32 ho33 hb hg_ hnew_
                    clear hg_ hnew_
                    (first | rw [← Ny438.out] at ho33 | (simp only [Int.reduceToNat] at ho33; rw [← Ny438.out] at ho33))
                    have n0_ := Aside0.mk (Kd.R_elder' (by (with_reducible repeat (first | apply Kd.R_alloc | apply Kd.R_drewN | apply Kd.R_drew)); exact HO434.out) (Kd.R_base ho33) hb)
                    have n1_ := Aside0.mk (Kd.R_lower (Kd.R_new' ho33 (Kd.R_lt (by (with_reducible repeat (first | apply Kd.R_alloc | apply Kd.R_drewN | apply Kd.R_drew)); exact HO434.out))) (below_size (by repeat (first | (with_reducible first | exact HB.out | apply below_alloc | apply pw_below_drewN | apply below_drew1 | refine below_set ?_ (IsS60.ge HI431.out)) | exact HB.out))))
                    have n2_ := Aside0.mk (IsS60.below (by repeat (first | (with_reducible first | exact HI431.out | apply IsS60.alloc | apply IsS60.drewN | apply IsS60.drew | apply IsS60.set_1) | exact HI431.out)) hb)
                    have n3_ := Aside0.mk (Kd.C_below (by repeat (first | (with_reducible exact HR444.out) | (with_reducible refine Kd.C_alloc ?_ _) | (with_reducible refine Kd.C_drewN ?_ _) | (with_reducible refine Kd.C_drew ?_) | exact HR444.out)) hb)
                    have n4_ := Aside0.mk (Kd.C_below (by repeat (first | (with_reducible exact HR451.out) | (with_reducible refine Kd.C_alloc ?_ _) | (with_reducible refine Kd.C_drewN ?_ _) | (with_reducible refine Kd.C_drew ?_) | exact HR451.out)) hb)
                    have n5_ := Aside0.mk (below_step (by repeat (first | (with_reducible first | exact HB.out | apply below_alloc | apply pw_below_drewN | apply below_drew1 | refine below_set ?_ (IsS60.ge HI431.out)) | exact HB.out)) hb)
                    clear HO434
                    clear HI431
                    clear HR444
                    clear HR451
                    clear HB
                    have HO434 := n0_
                    have HO440 := n1_
                    have HI431 := n2_
                    have HR444 := n3_
                    have HR451 := n4_
                    have HB := n5_
                    clear n0_ n1_ n2_ n3_ n4_ n5_
                    clear hb ho33
                    refine hK.out _ _ trivial (fun hHeld => ?_)
                    clear hK K
                    refine norm_ (a' := ?_) ?_ ?_
                    rotate_left
                    · show Act.put _ (some 25) _ = _
                      simp only [Act.put, List.setIfInBounds_toArray, List.set_cons_zero, List.set_cons_succ, i64_w, i32_w]
                      rfl
                    refine one_ (i := 4) (N := some 29) #[true, true, true, true, true, true, true, true, false, false] rfl rfl (one_of HT_.out (by kernel_rfl)) (by decide) (fun K hK => ?_)
                    refine Kd.R_append_rows_step k56 (w0 := w) w.heap.size (by rfl) (.tmp 25) (.tmp 28) 23 56 (.agg #[(.int .i64 0), (.string ⟨#[]⟩), (.int .i64 0)]) 32 rfl Try.underlying23 info56 rfl (by decide) (by omega) v439 y438 y441 _ _ _ (fun k_ => some k_ ≠ (.slice Ao28 t432.length co28 : Value).ownBlock) (fun _ => False) rfl rfl ?aO ?aR (fun _ _ h => h) (fun _ h => h.elim) ?aF ?aB ?aS ?aL ?_
                    (case aR => repeat (first | exact (by repeat (first | (with_reducible exact HR444.out) | (with_reducible refine Kd.C_alloc ?_ _) | (with_reducible refine Kd.C_drewN ?_ _) | (with_reducible refine Kd.C_drew ?_) | exact HR444.out)) | (with_reducible refine Kd.C_alloc ?_ _) | (with_reducible refine Kd.C_drewN ?_ _) | (with_reducible refine Kd.C_drew ?_)))
                    (case aB => exact (by repeat (first | (with_reducible first | exact HB.out | apply below_alloc | apply pw_below_drewN | apply below_drew1 | refine below_set ?_ (IsS60.ge HI431.out)) | exact HB.out)))
                    (case aF => exact (fun k_ hk => Kd.fresh' (Kd.R_lt (by (with_reducible repeat (first | apply Kd.R_alloc | apply Kd.R_drewN | apply Kd.R_drew)); exact HO434.out)) k_ hk))
                    (case aO => exact (by (with_reducible repeat (first | apply Kd.R_alloc | apply Kd.R_drewN | apply Kd.R_drew)); (first | exact Kd.R_mono HO440.out (fun _ hk => hk.2) | exact HO440.out)))
                    (case aS => exact (below_size (by repeat (first | (with_reducible first | exact HB.out | apply below_alloc | apply pw_below_drewN | apply below_drew1 | refine below_set ?_ (IsS60.ge HI431.out)) | exact HB.out))))
                    (case aL => have := LMc14.out; omega)
                    intro v446 w34 ho hb hg hat
                    rw [← Ny445.out] at ho
                    have n0_ := Aside0.mk (IsS60.grown (by repeat (first | (with_reducible first | exact HI431.out | apply IsS60.alloc | apply IsS60.drewN | apply IsS60.drew | apply IsS60.set_1) | exact HI431.out)) hg (IsS60.own_ne HI431.out HO440.out (by decide)))
                    have n1_ := Aside0.mk (Kd.R_after (ok := (fun _ => True)) (by (with_reducible repeat (first | apply Kd.R_alloc | apply Kd.R_drewN | apply Kd.R_drew)); exact HO434.out) hg hat)
                    have n2_ := Aside0.mk (hb)
                    have n3_ := Aside0.mk ((show Kd.C k56 w34 A30 y441.length y441 from by rw [Ny441.out, KA30.out]; exact Kd.C_drop (m := (t437 : Int).toNat) (c := co28) ((Kd.R_reads' (Kd.R_after (ok := (fun _ => True)) (by (with_reducible repeat (first | apply Kd.R_alloc | apply Kd.R_drewN | apply Kd.R_drew)); exact HO434.out) hg hat)).2.2) KL30.out ((Kd.R_reads' (Kd.R_after (ok := (fun _ => True)) (by (with_reducible repeat (first | apply Kd.R_alloc | apply Kd.R_drewN | apply Kd.R_drew)); exact HO434.out) hg hat)).2.1)))
                    have n4_ := Aside0.mk ((show Kd.C k56 w34 Ao28 y448.length y448 from by rw [Ny448.out]; exact Kd.C_take (m := (t437 : Int).toNat) ((Kd.R_reads' (Kd.R_after (ok := (fun _ => True)) (by (with_reducible repeat (first | apply Kd.R_alloc | apply Kd.R_drewN | apply Kd.R_drew)); exact HO434.out) hg hat)).2.2) KL31.out))
                    have n5_ := Aside0.mk (ho)
                    clear HI431
                    clear HO434
                    clear HB
                    clear HR444
                    clear HR451
                    clear HO440
                    have HI431 := n0_
                    have HO434 := n1_
                    have HB := n2_
                    have HR444 := n3_
                    have HR451 := n4_
                    have HO447 := n5_
                    clear n0_ n1_ n2_ n3_ n4_ n5_
                    clear ho hb hg hat
                    refine hK.out _ _ trivial (fun hHeld => ?_)
                    clear hK K
                    refine norm_ (a' := ?_) ?_ ?_
                    rotate_left
                    · show Act.put _ (some 29) _ = _
                      simp only [Act.put, List.setIfInBounds_toArray, List.set_cons_zero, List.set_cons_succ, i64_w, i32_w]
                      rfl
                    refine one_ (i := 8) (N := some 33) #[true, true, true, true, true, true, true, true, true, false] rfl rfl (one_of HT_.out (by kernel_rfl)) (by decide) (fun K hK => ?_)
                    refine Kd.R_append_rows_step k56 (w0 := w) w.heap.size (by rfl) (.tmp 29) (.tmp 32) 23 56 (.agg #[(.int .i64 0), (.string ⟨#[]⟩), (.int .i64 0)]) 32 rfl Try.underlying23 info56 rfl (by decide) (by omega) v446 y445 y448 _ _ _ (fun k_ => some k_ ≠ (.slice Ao28 t432.length co28 : Value).ownBlock) (fun _ => False) rfl rfl ?aO ?aR (fun _ _ h => h) (fun _ h => h.elim) ?aF ?aB ?aS ?aL ?_
                    (case aR => repeat (first | exact (by repeat (first | (with_reducible exact HR451.out) | (with_reducible refine Kd.C_alloc ?_ _) | (with_reducible refine Kd.C_drewN ?_ _) | (with_reducible refine Kd.C_drew ?_) | exact HR451.out)) | (with_reducible refine Kd.C_alloc ?_ _) | (with_reducible refine Kd.C_drewN ?_ _) | (with_reducible refine Kd.C_drew ?_)))
                    (case aB => exact (by repeat (first | (with_reducible first | exact HB.out | apply below_alloc | apply pw_below_drewN | apply below_drew1 | refine below_set ?_ (IsS60.ge HI431.out)) | exact HB.out)))
                    (case aF => exact (fun k_ hk => Kd.fresh' (Kd.R_lt (by (with_reducible repeat (first | apply Kd.R_alloc | apply Kd.R_drewN | apply Kd.R_drew)); exact HO434.out)) k_ hk))
                    (case aO => exact (by (with_reducible repeat (first | apply Kd.R_alloc | apply Kd.R_drewN | apply Kd.R_drew)); exact HO447.out))
                    (case aS => exact (below_size (by repeat (first | (with_reducible first | exact HB.out | apply below_alloc | apply pw_below_drewN | apply below_drew1 | refine below_set ?_ (IsS60.ge HI431.out)) | exact HB.out))))
                    (case aL => have := LMc17.out; omega)
                    intro v453 w35 ho hb hg hat
                    rw [← Ny452.out] at ho
                    have n0_ := Aside0.mk (IsS60.grown (by repeat (first | (with_reducible first | exact HI431.out | apply IsS60.alloc | apply IsS60.drewN | apply IsS60.drew | apply IsS60.set_1) | exact HI431.out)) hg (IsS60.own_ne HI431.out HO447.out (by decide)))
                    have n1_ := Aside0.mk (Kd.R_after (ok := (fun _ => True)) (by (with_reducible repeat (first | apply Kd.R_alloc | apply Kd.R_drewN | apply Kd.R_drew)); exact HO434.out) hg hat)
                    have n2_ := Aside0.mk (hb)
                    have n3_ := Aside0.mk ((show Kd.C k56 w35 A30 y441.length y441 from by rw [Ny441.out, KA30.out]; exact Kd.C_drop (m := (t437 : Int).toNat) (c := co28) ((Kd.R_reads' (Kd.R_after (ok := (fun _ => True)) (by (with_reducible repeat (first | apply Kd.R_alloc | apply Kd.R_drewN | apply Kd.R_drew)); exact HO434.out) hg hat)).2.2) KL30.out ((Kd.R_reads' (Kd.R_after (ok := (fun _ => True)) (by (with_reducible repeat (first | apply Kd.R_alloc | apply Kd.R_drewN | apply Kd.R_drew)); exact HO434.out) hg hat)).2.1)))
                    have n4_ := Aside0.mk ((show Kd.C k56 w35 Ao28 y448.length y448 from by rw [Ny448.out]; exact Kd.C_take (m := (t437 : Int).toNat) ((Kd.R_reads' (Kd.R_after (ok := (fun _ => True)) (by (with_reducible repeat (first | apply Kd.R_alloc | apply Kd.R_drewN | apply Kd.R_drew)); exact HO434.out) hg hat)).2.2) KL31.out))
                    have n5_ := Aside0.mk (ho)
                    clear HI431
                    clear HO434
                    clear HB
                    clear HR444
                    clear HR451
                    clear HO447
                    have HI431 := n0_
                    have HO434 := n1_
                    have HB := n2_
                    have HR444 := n3_
                    have HR451 := n4_
                    have HO454 := n5_
                    clear n0_ n1_ n2_ n3_ n4_ n5_
                    clear ho hb hg hat
                    refine hK.out _ _ trivial (fun hHeld => ?_)
                    clear hK K
                    refine norm_ (a' := ?_) ?_ ?_
                    rotate_left
                    · show Act.put _ (some 33) _ = _
                      simp only [Act.put, List.setIfInBounds_toArray, List.set_cons_zero, List.set_cons_succ, i64_w, i32_w]
                      rfl
                    refine pure_ (i := 9) (N := some 7) (v := ?_) (a' := ?_) #[true, true, true, true, true, true, true, true, true, true] rfl rfl (any_of HT_.out (by kernel_rfl)) (fun _ _ _ h => h) (Or.inl ⟨by rfl, ?_⟩) ?_ ?_
                    rotate_left
                    · intro w'
                      go_simp
                      with_reducible rfl
                    rotate_left
                    · simp only [Act.put, List.setIfInBounds_toArray, List.set_cons_zero, List.set_cons_succ, i64_w, i32_w]
                      rfl
                    refine done_ (done_of HT_.out (by kernel_rfl)) ?_
                    try go_wp2_with (first | ((with_reducible refine gate_callee (f := 25) rfl ?_); refine goesL_ (some 36) rfl rfl Try.func25 (by kernel_rfl) rfl #[.slice Ao28 t432.length co28] rfl (by (try simp only [List.map_toArray, List.map_cons, List.map_nil]); first | done | rfl | (simp only [List.length_drop, List.length_take]; rfl)) ?_; (with_reducible refine (payrollref34_Merge.calls k _ _ t432 t455 t456 _ ?side1 ?side2 A18.out).mono ?_); (case side1 => repeat (first | exact (Kd.R_reads' HO434.out).2.2 | (with_reducible refine Kd.C_alloc ?_ _) | (with_reducible refine Kd.C_drewN ?_ _) | (with_reducible refine Kd.C_drew ?_))); (case side2 => exact (Kd.R_reads' HO434.out).2.1); rintro e w36 ⟨v457, rfl, ho0, hb⟩; refine ⟨_, rfl, ?_⟩; have n0_ := Aside0.mk (Kd.R_elder' (by (with_reducible repeat (first | apply Kd.R_alloc | apply Kd.R_drewN | apply Kd.R_drew)); exact HO434.out) (Kd.R_base ho0) hb); have n1_ := Aside0.mk (Kd.R_elder' (by (with_reducible repeat (first | apply Kd.R_alloc | apply Kd.R_drewN | apply Kd.R_drew)); exact HO454.out) (Kd.R_base ho0) hb); have n2_ := Aside0.mk (Kd.R_lower (Kd.R_new' (Kd.R_new' ho0 (Kd.R_lt (by (with_reducible repeat (first | apply Kd.R_alloc | apply Kd.R_drewN | apply Kd.R_drew)); exact HO434.out))) (Kd.R_lt (by (with_reducible repeat (first | apply Kd.R_alloc | apply Kd.R_drewN | apply Kd.R_drew)); exact HO454.out))) (below_size (by repeat (first | (with_reducible first | exact HB.out | apply below_alloc | apply pw_below_drewN | apply below_drew1 | refine below_set ?_ (IsS60.ge HI431.out)) | exact HB.out)))); have n3_ := Aside0.mk (IsS60.below (by repeat (first | (with_reducible first | exact HI431.out | apply IsS60.alloc | apply IsS60.drewN | apply IsS60.drew | apply IsS60.set_1) | exact HI431.out)) hb); have n4_ := Aside0.mk (Kd.C_below (by repeat (first | (with_reducible exact HR444.out) | (with_reducible refine Kd.C_alloc ?_ _) | (with_reducible refine Kd.C_drewN ?_ _) | (with_reducible refine Kd.C_drew ?_) | exact HR444.out)) hb); have n5_ := Aside0.mk (Kd.C_below (by repeat (first | (with_reducible exact HR451.out) | (with_reducible refine Kd.C_alloc ?_ _) | (with_reducible refine Kd.C_drewN ?_ _) | (with_reducible refine Kd.C_drew ?_) | exact HR451.out)) hb); have n6_ := Aside0.mk (below_step (by repeat (first | (with_reducible first | exact HB.out | apply below_alloc | apply pw_below_drewN | apply below_drew1 | refine below_set ?_ (IsS60.ge HI431.out)) | exact HB.out)) hb); clear HO434; clear HO454; clear HI431; clear HR444; clear HR451; clear HB; have HO434 := n0_; have HO454 := n1_; have HO458 := n2_; have HI431 := n3_; have HR444 := n4_; have HR451 := n5_; have HB := n6_; clear n0_ n1_ n2_ n3_ n4_ n5_ n6_; (try clear hb); (try clear hb2); (try clear hk); (try clear hi); (try clear ho0); obtain ⟨Ao37, co37, eo37⟩ := Kd.R_slice HO454.out; subst eo37) | ((with_reducible refine gate_callee (f := 16) rfl ?_); refine goesL_ (some 42) rfl rfl Try.func16 (by kernel_rfl) rfl #[.int .i64 1, .int .i64 1, .int .i64 0, .slice Ao28 t432.length co28, .slice Ao37 y452.length co37] rfl (by (try simp only [List.map_toArray, List.map_cons, List.map_nil]); first | done | rfl | (simp only [List.length_drop, List.length_take]; rfl)) ?_; (with_reducible refine (delta_Postings.calls k 1 1 0 _ _ t432 _ _ y452 t459 t460 _ ?side1 ?side2 ?side3 ?side4 A19.out).mono ?_); (case side1 => repeat (first | exact (Kd.R_reads' HO434.out).2.2 | (with_reducible refine Kd.C_alloc ?_ _) | (with_reducible refine Kd.C_drewN ?_ _) | (with_reducible refine Kd.C_drew ?_))); (case side2 => exact (Kd.R_reads' HO434.out).2.1); (case side3 => repeat (first | exact (Kd.R_reads' HO454.out).2.2 | (with_reducible refine Kd.C_alloc ?_ _) | (with_reducible refine Kd.C_drewN ?_ _) | (with_reducible refine Kd.C_drew ?_))); (case side4 => exact (Kd.R_reads' HO454.out).2.1); rintro e w38 ⟨v461, rfl, ho0, hb⟩; refine ⟨_, rfl, ?_⟩; have n0_ := Aside0.mk (Kd.R_below (by (with_reducible repeat (first | apply Kd.R_alloc | apply Kd.R_drewN | apply Kd.R_drew)); exact HO434.out) hb); have n1_ := Aside0.mk (Kd.R_below (by (with_reducible repeat (first | apply Kd.R_alloc | apply Kd.R_drewN | apply Kd.R_drew)); exact HO454.out) hb); have n2_ := Aside0.mk (Kd.R_below (by (with_reducible repeat (first | apply Kd.R_alloc | apply Kd.R_drewN | apply Kd.R_drew)); exact HO458.out) hb); have n3_ := Aside0.mk (Kd.R_lower ho0 (below_size (by repeat (first | (with_reducible first | exact HB.out | apply below_alloc | apply pw_below_drewN | apply below_drew1 | refine below_set ?_ (IsS60.ge HI431.out)) | exact HB.out)))); have n4_ := Aside0.mk (IsS60.below (by repeat (first | (with_reducible first | exact HI431.out | apply IsS60.alloc | apply IsS60.drewN | apply IsS60.drew | apply IsS60.set_1) | exact HI431.out)) hb); have n5_ := Aside0.mk (Kd.C_below (by repeat (first | (with_reducible exact HR444.out) | (with_reducible refine Kd.C_alloc ?_ _) | (with_reducible refine Kd.C_drewN ?_ _) | (with_reducible refine Kd.C_drew ?_) | exact HR444.out)) hb); have n6_ := Aside0.mk (Kd.C_below (by repeat (first | (with_reducible exact HR451.out) | (with_reducible refine Kd.C_alloc ?_ _) | (with_reducible refine Kd.C_drewN ?_ _) | (with_reducible refine Kd.C_drew ?_) | exact HR451.out)) hb); have n7_ := Aside0.mk (below_step (by repeat (first | (with_reducible first | exact HB.out | apply below_alloc | apply pw_below_drewN | apply below_drew1 | refine below_set ?_ (IsS60.ge HI431.out)) | exact HB.out)) hb); clear HO434; clear HO454; clear HO458; clear HI431; clear HR444; clear HR451; clear HB; have HO434 := n0_; have HO454 := n1_; have HO458 := n2_; have HO462 := n3_; have HI431 := n4_; have HR444 := n5_; have HR451 := n6_; have HB := n7_; clear n0_ n1_ n2_ n3_ n4_ n5_ n6_ n7_; (try clear hb); (try clear hb2); (try clear hk); (try clear hi); (try clear ho0); obtain ⟨Ao39, co39, eo39⟩ := Kd.R_slice HO458.out; subst eo39) | ((with_reducible refine gate_callee (f := 16) rfl ?_); refine goesL_ (some 48) rfl rfl Try.func16 (by kernel_rfl) rfl #[.int .i64 1, .int .i64 1, .int .i64 0, .slice Ao39 t455.length co39, .slice Ao28 t432.length co28] rfl (by (try simp only [List.map_toArray, List.map_cons, List.map_nil]); first | done | rfl | (simp only [List.length_drop, List.length_take]; rfl)) ?_; (with_reducible refine (delta_Postings.calls k 1 1 0 _ _ t455 _ _ t432 t463 t464 _ ?side1 ?side2 ?side3 ?side4 A20.out).mono ?_); (case side1 => repeat (first | exact (Kd.R_reads' HO458.out).2.2 | (with_reducible refine Kd.C_alloc ?_ _) | (with_reducible refine Kd.C_drewN ?_ _) | (with_reducible refine Kd.C_drew ?_))); (case side2 => exact (Kd.R_reads' HO458.out).2.1); (case side3 => repeat (first | exact (Kd.R_reads' HO434.out).2.2 | (with_reducible refine Kd.C_alloc ?_ _) | (with_reducible refine Kd.C_drewN ?_ _) | (with_reducible refine Kd.C_drew ?_))); (case side4 => exact (Kd.R_reads' HO434.out).2.1); rintro e w40 ⟨v465, rfl, ho0, hb⟩; refine ⟨_, rfl, ?_⟩; have n0_ := Aside0.mk (Kd.R_below (by (with_reducible repeat (first | apply Kd.R_alloc | apply Kd.R_drewN | apply Kd.R_drew)); exact HO434.out) hb); have n1_ := Aside0.mk (Kd.R_below (by (with_reducible repeat (first | apply Kd.R_alloc | apply Kd.R_drewN | apply Kd.R_drew)); exact HO454.out) hb); have n2_ := Aside0.mk (Kd.R_below (by (with_reducible repeat (first | apply Kd.R_alloc | apply Kd.R_drewN | apply Kd.R_drew)); exact HO458.out) hb); have n3_ := Aside0.mk (Kd.R_elder' (by (with_reducible repeat (first | apply Kd.R_alloc | apply Kd.R_drewN | apply Kd.R_drew)); exact HO462.out) (Kd.R_base ho0) hb); have n4_ := Aside0.mk (Kd.R_lower (Kd.R_new' ho0 (Kd.R_lt (by (with_reducible repeat (first | apply Kd.R_alloc | apply Kd.R_drewN | apply Kd.R_drew)); exact HO462.out))) (below_size (by repeat (first | (with_reducible first | exact HB.out | apply below_alloc | apply pw_below_drewN | apply below_drew1 | refine below_set ?_ (IsS60.ge HI431.out)) | exact HB.out)))); have n5_ := Aside0.mk (IsS60.below (by repeat (first | (with_reducible first | exact HI431.out | apply IsS60.alloc | apply IsS60.drewN | apply IsS60.drew | apply IsS60.set_1) | exact HI431.out)) hb); have n6_ := Aside0.mk (Kd.C_below (by repeat (first | (with_reducible exact HR444.out) | (with_reducible refine Kd.C_alloc ?_ _) | (with_reducible refine Kd.C_drewN ?_ _) | (with_reducible refine Kd.C_drew ?_) | exact HR444.out)) hb); have n7_ := Aside0.mk (Kd.C_below (by repeat (first | (with_reducible exact HR451.out) | (with_reducible refine Kd.C_alloc ?_ _) | (with_reducible refine Kd.C_drewN ?_ _) | (with_reducible refine Kd.C_drew ?_) | exact HR451.out)) hb); have n8_ := Aside0.mk (below_step (by repeat (first | (with_reducible first | exact HB.out | apply below_alloc | apply pw_below_drewN | apply below_drew1 | refine below_set ?_ (IsS60.ge HI431.out)) | exact HB.out)) hb); clear HO434; clear HO454; clear HO458; clear HO462; clear HI431; clear HR444; clear HR451; clear HB; have HO434 := n0_; have HO454 := n1_; have HO458 := n2_; have HO462 := n3_; have HO466 := n4_; have HI431 := n5_; have HR444 := n6_; have HR451 := n7_; have HB := n8_; clear n0_ n1_ n2_ n3_ n4_ n5_ n6_ n7_ n8_; (try clear hb); (try clear hb2); (try clear hk); (try clear hi); (try clear ho0); obtain ⟨Ao41, co41, eo41⟩ := Kd.R_slice HO462.out; subst eo41; obtain ⟨Ao42, co42, eo42⟩ := Kd.R_slice HO466.out; subst eo42) | (go_at_call 12; (with_reducible refine (payrolllaw37_awake.calls k  t467 _ A25.out).mono ?_); rintro e w43 ⟨rfl, hb⟩; have n0_ := Aside0.mk (Kd.R_below (by (with_reducible repeat (first | apply Kd.R_alloc | apply Kd.R_drewN | apply Kd.R_drew)); exact HO434.out) hb); have n1_ := Aside0.mk (Kd.R_below (by (with_reducible repeat (first | apply Kd.R_alloc | apply Kd.R_drewN | apply Kd.R_drew)); exact HO454.out) hb); have n2_ := Aside0.mk (Kd.R_below (by (with_reducible repeat (first | apply Kd.R_alloc | apply Kd.R_drewN | apply Kd.R_drew)); exact HO458.out) hb); have n3_ := Aside0.mk (Kd.R_below (by (with_reducible repeat (first | apply Kd.R_alloc | apply Kd.R_drewN | apply Kd.R_drew)); exact HO462.out) hb); have n4_ := Aside0.mk (Kd.R_below (by (with_reducible repeat (first | apply Kd.R_alloc | apply Kd.R_drewN | apply Kd.R_drew)); exact HO466.out) hb); have n5_ := Aside0.mk (IsS60.below (by repeat (first | (with_reducible first | exact HI431.out | apply IsS60.alloc | apply IsS60.drewN | apply IsS60.drew | apply IsS60.set_1) | exact HI431.out)) hb); have n6_ := Aside0.mk (Kd.C_below (by repeat (first | (with_reducible exact HR444.out) | (with_reducible refine Kd.C_alloc ?_ _) | (with_reducible refine Kd.C_drewN ?_ _) | (with_reducible refine Kd.C_drew ?_) | exact HR444.out)) hb); have n7_ := Aside0.mk (Kd.C_below (by repeat (first | (with_reducible exact HR451.out) | (with_reducible refine Kd.C_alloc ?_ _) | (with_reducible refine Kd.C_drewN ?_ _) | (with_reducible refine Kd.C_drew ?_) | exact HR451.out)) hb); have n8_ := Aside0.mk (below_step (by repeat (first | (with_reducible first | exact HB.out | apply below_alloc | apply pw_below_drewN | apply below_drew1 | refine below_set ?_ (IsS60.ge HI431.out)) | exact HB.out)) hb); clear HO434; clear HO454; clear HO458; clear HO462; clear HO466; clear HI431; clear HR444; clear HR451; clear HB; have HO434 := n0_; have HO454 := n1_; have HO458 := n2_; have HO462 := n3_; have HO466 := n4_; have HI431 := n5_; have HR444 := n6_; have HR451 := n7_; have HB := n8_; clear n0_ n1_ n2_ n3_ n4_ n5_ n6_ n7_ n8_; (try clear hb); (try clear hb2); (try clear hk); (try clear hi)))
                    go_ret
                    exact ⟨by first | rfl | (simp [errW_none, errW_some] <;> rfl) | (simp [*, errW_none, errW_some] <;> rfl), by repeat (first | (with_reducible first | exact HB.out | apply below_alloc | apply pw_below_drewN | apply below_drew1 | refine below_set ?_ (IsS60.ge HI431.out)) | exact HB.out)⟩
                  · rw [if_neg c24] at H
                    exact absurd H (by simp)
                · rw [if_neg c23] at H
                  exact absurd H (by simp)
              · rw [if_neg c22] at H
                exact absurd H (by simp)
            · rw [if_neg c21] at H
              exact absurd H (by simp)
          · rw [if_neg c17] at H
            exact absurd H (by simp)
        · rw [if_neg c14] at H
          exact absurd H (by simp)
      · rw [if_neg c13] at H
        exact absurd H (by simp)
    · rw [if_neg c12] at H
      exact absurd H (by simp)

/-- THE ONE PURE STATEMENT of payrolllaw37_DeltaNothing: yours. -/
def payrolllaw37_DeltaNothing.Pure : Prop := ∀ (l0 : List Int) (a1 : Int), l0.length ≤ maxLen → l0.length * 8 ≤ 140737488351232 → (∀ x ∈ l0, (Lit.int .i64 x).wf = true) → (Lit.int .i64 a1).wf = true → ∃ k, payrolllaw37_DeltaNothing.f k l0 a1 = some true
theorem payrolllaw37_DeltaNothing.walk (P : payrolllaw37_DeltaNothing.Pure) (a0 : Option Addr) (len0 cap0 : Nat) (z0 : List Int) (a1 : Int) (w : World) (w0 : (a0 = none ∧ len0 = 0 ∧ cap0 = 0 ∧ z0 = []) ∨ ∃ x, a0 = some x ∧ len0 ≤ cap0 ∧ cap0 ≤ maxLen ∧ z0.length = cap0 ∧ (∀ i, i < z0.length → w.cell? (x.add i) = some (.int .i64 (z0.getD i 0))) ∧ ∀ n ∈ z0, (Lit.int .i64 n).wf = true) (y0 : len0 * 8 ≤ 140737488351232) (w1 : (Lit.int .i64 a1).wf = true) :
    Calls Try.prog 6 #[.slice a0 len0 cap0, .int .i64 a1] w fun e w' => e = .returned (.bool true) ∧ Below w.heap.size w w' := by
  obtain ⟨l0, rfl, hr0, hm0, hw0, hc0⟩ := ReadsInt.ofRowC w0
  obtain ⟨k, h⟩ := P l0 a1 hm0 y0 hw0 w1
  refine (payrolllaw37_DeltaNothing.calls k _ _ l0 a1 true w (Kd.C_of_reads (d := (0 : Int)) (h1 := fun _ => rfl) hr0) hc0 h).mono ?_
  rintro e w' ⟨rfl, hd⟩
  exact ⟨rfl, hd⟩

end Go.Proofs.Ytdlljjglmcpniaa.Q
