-- Printed by wip/xprint.py over the translation, with contracts proved by hand among them. Lean checks it.
import Derived.Test.YtelmnkmpkljboaaQx0
import Derived.Test.YtelmnkmpkljboaaQx3
import Derived.Test.YtelmnkmpkljboaaQx5
import Derived.Test.YtelmnkmpkljboaaQx6
import Derived.Test.YtelmnkmpkljboaaQx7
import Derived.Test.YtelmnkmpkljboaaQx9
import Derived.Test.YtelmnkmpkljboaaQx12
import Derived.Test.YtelmnkmpkljboaaQx14
namespace Go.Proofs.Ytelmnkmpkljboaa.Q
open Go.RowKit Go.Proofs.YtelmnkmpkljboaaW.PrintWords Go.Proofs.YtelmnkmpkljboaaW.PrintLast Go.Proofs.YtelmnkmpkljboaaW.PrintMore
attribute [local go_sem] max2_int min2_int max_two min_two max_three min_three max_four min_four   -- for this text's walks alone
set_option linter.unusedVariables false
set_option linter.unusedSimpArgs false

/-! ### payrolllaw35_BookSums: function 6 -/
mutual
def payrolllaw35_BookSums.l0 : Nat → List (S27) → List (S27) → List (S27) → Int → Option (Bool)
  | 0, _, _, _, _ => none
  | k + 1, x6, x8, x9, x10 => if x10 < 3 then (payrolllaw35_BookSums.l1 k x6 x8 x9 x10 ([] : List (S25)) 1) else ((payrolllaw35_awake.f k).bind fun t398 => (some t398))
def payrolllaw35_BookSums.l1 : Nat → List (S27) → List (S27) → List (S27) → Int → List (S25) → Int → Option (Bool)
  | 0, _, _, _, _, _, _ => none
  | k + 1, x6, x8, x9, x10, x11, x12 => if x12 ≤ 3 then ((book_Result.f k x6 x12 x10).bind fun t370 => ((book_Result.f k x8 x12 x10).bind fun t373 => ((book_Result.f k x9 x12 x10).bind fun t376 => (if t373.length + t376.length < 4398046511104 then ((payslip_Merge.f k (t373 ++ t376)).bind fun bt382 => (if bt382.2 = 0 then ((payrollref32_Same.f k t370 bt382.1).bind fun t386 => (if t386 = true then (if x11.length + t370.length < 4398046511104 then (payrolllaw35_BookSums.l1 k x6 x8 x9 x10 (x11 ++ t370) (wrap64 (x12 + 1))) else (none)) else (none))) else (none))) else (none))))) else ((payslip_Merge.f k x11).bind fun bt390 => (if bt390.2 = 0 then ((book_Period.f k x6 x10).bind fun t394 => ((payrollref32_Same.f k bt390.1 t394).bind fun t397 => (if t397 = true then (payrolllaw35_BookSums.l0 k x6 x8 x9 (wrap64 (x10 + 1))) else (none)))) else (none)))
end
def payrolllaw35_BookSums.f (k : Nat) (l0 : List Int) (a1 : Int) : Option (Bool) := (paygen_New.f l0).bind fun bt350 => ((paygen_Deck_Book.f k bt350.1 bt350.2 6).bind fun bt353 => ((paygen_Mod.f a1 12).bind fun t357 => ((book_AsOf.f k bt353.1 t357).bind fun t358 => (if (t358.length : Int) > (bt353.1.length : Int) then (none) else (if 0 ≤ (t358.length : Int) then (if (t358.length : Int) ≤ (bt353.1.length : Int) then ((payrollref35_Same.f k t358 (bt353.1.take ((t358.length : Int) : Int).toNat)).bind fun t365 => (if t365 = true then (payrolllaw35_BookSums.l0 k bt353.1 t358 (bt353.1.drop ((t358.length : Int) : Int).toNat) 0) else (none))) else (none)) else (none))))))
theorem payrolllaw35_BookSums.mono_l : ∀ k, (∀ y0 y1 y2 y3, LeO (payrolllaw35_BookSums.l0 k y0 y1 y2 y3) (payrolllaw35_BookSums.l0 (k + 1) y0 y1 y2 y3)) ∧ (∀ y0 y1 y2 y3 y4 y5, LeO (payrolllaw35_BookSums.l1 k y0 y1 y2 y3 y4 y5) (payrolllaw35_BookSums.l1 (k + 1) y0 y1 y2 y3 y4 y5))
  | 0 => ⟨fun _ _ _ _ r h => by simp [payrolllaw35_BookSums.l0] at h, fun _ _ _ _ _ _ r h => by simp [payrolllaw35_BookSums.l1] at h⟩
  | k + 1 => by
    obtain ⟨ih0, ih1⟩ := payrolllaw35_BookSums.mono_l k
    refine ⟨?_, ?_⟩
    · intro y0 y1 y2 y3
      unfold payrolllaw35_BookSums.l0
      repeat' first
      | (with_reducible exact ih0 _ _ _ _)
      | (with_reducible exact ih1 _ _ _ _ _ _)
      | (with_reducible exact book_AsOf.mono _ _ _)
      | (with_reducible exact book_Period.mono _ _ _)
      | (with_reducible exact book_Result.mono _ _ _ _)
      | (with_reducible exact paygen_Deck_Book.mono _ _ _ _)
      | (with_reducible exact payrolllaw35_awake.mono _)
      | (with_reducible exact payrollref32_Same.mono _ _ _)
      | (with_reducible exact payrollref35_Same.mono _ _ _)
      | (with_reducible exact payslip_Merge.mono _ _)
      | (with_reducible exact LeO.refl _)
      | (with_reducible exact LeO.none _)
      | (with_reducible refine LeO.ite ?_ ?_)
      | (with_reducible refine LeO.bind ?_ (fun _ => ?_))
      | exact ih0 _ _ _ _
      | exact ih1 _ _ _ _ _ _
      | exact book_AsOf.mono _ _ _
      | exact book_Period.mono _ _ _
      | exact book_Result.mono _ _ _ _
      | exact paygen_Deck_Book.mono _ _ _ _
      | exact payrolllaw35_awake.mono _
      | exact payrollref32_Same.mono _ _ _
      | exact payrollref35_Same.mono _ _ _
      | exact payslip_Merge.mono _ _
      | exact LeO.none _
      | refine LeO.ite ?_ ?_
      | refine LeO.bind ?_ (fun _ => ?_)
    · intro y0 y1 y2 y3 y4 y5
      unfold payrolllaw35_BookSums.l1
      repeat' first
      | (with_reducible exact ih0 _ _ _ _)
      | (with_reducible exact ih1 _ _ _ _ _ _)
      | (with_reducible exact book_AsOf.mono _ _ _)
      | (with_reducible exact book_Period.mono _ _ _)
      | (with_reducible exact book_Result.mono _ _ _ _)
      | (with_reducible exact paygen_Deck_Book.mono _ _ _ _)
      | (with_reducible exact payrolllaw35_awake.mono _)
      | (with_reducible exact payrollref32_Same.mono _ _ _)
      | (with_reducible exact payrollref35_Same.mono _ _ _)
      | (with_reducible exact payslip_Merge.mono _ _)
      | (with_reducible exact LeO.refl _)
      | (with_reducible exact LeO.none _)
      | (with_reducible refine LeO.ite ?_ ?_)
      | (with_reducible refine LeO.bind ?_ (fun _ => ?_))
      | exact ih0 _ _ _ _
      | exact ih1 _ _ _ _ _ _
      | exact book_AsOf.mono _ _ _
      | exact book_Period.mono _ _ _
      | exact book_Result.mono _ _ _ _
      | exact paygen_Deck_Book.mono _ _ _ _
      | exact payrolllaw35_awake.mono _
      | exact payrollref32_Same.mono _ _ _
      | exact payrollref35_Same.mono _ _ _
      | exact payslip_Merge.mono _ _
      | exact LeO.none _
      | refine LeO.ite ?_ ?_
      | refine LeO.bind ?_ (fun _ => ?_)
theorem payrolllaw35_BookSums.mono : ∀ a0 a1 k, LeO (payrolllaw35_BookSums.f k a0 a1) (payrolllaw35_BookSums.f (k + 1) a0 a1) := by
  intro a0 a1 k
  obtain ⟨ih0, ih1⟩ := payrolllaw35_BookSums.mono_l k
  unfold payrolllaw35_BookSums.f
  repeat' first
      | (with_reducible exact ih0 _ _ _ _)
      | (with_reducible exact ih1 _ _ _ _ _ _)
      | (with_reducible exact book_AsOf.mono _ _ _)
      | (with_reducible exact book_Period.mono _ _ _)
      | (with_reducible exact book_Result.mono _ _ _ _)
      | (with_reducible exact paygen_Deck_Book.mono _ _ _ _)
      | (with_reducible exact payrolllaw35_awake.mono _)
      | (with_reducible exact payrollref32_Same.mono _ _ _)
      | (with_reducible exact payrollref35_Same.mono _ _ _)
      | (with_reducible exact payslip_Merge.mono _ _)
      | (with_reducible exact LeO.refl _)
      | (with_reducible exact LeO.none _)
      | (with_reducible refine LeO.ite ?_ ?_)
      | (with_reducible refine LeO.bind ?_ (fun _ => ?_))
      | exact ih0 _ _ _ _
      | exact ih1 _ _ _ _ _ _
      | exact book_AsOf.mono _ _ _
      | exact book_Period.mono _ _ _
      | exact book_Result.mono _ _ _ _
      | exact paygen_Deck_Book.mono _ _ _ _
      | exact payrolllaw35_awake.mono _
      | exact payrollref32_Same.mono _ _ _
      | exact payrollref35_Same.mono _ _ _
      | exact payslip_Merge.mono _ _
      | exact LeO.none _
      | refine LeO.ite ?_ ?_
      | refine LeO.bind ?_ (fun _ => ?_)
set_option maxHeartbeats 8000000 in
set_option maxRecDepth 100000 in
theorem payrolllaw35_BookSums.calls (k : Nat) (A0 : Option Addr) (c0 : Nat) (l0 : List Int) (a1 : Int) (r : Bool) (w : World) (hr0 : Kd.C (Kd.int .i64) w A0 l0.length l0) (hc0 : l0.length ≤ c0) (h : payrolllaw35_BookSums.f k l0 a1 = some r) :
    Calls Try.prog 6 #[.slice A0 l0.length c0, .int .i64 a1] w fun e w' => e = .returned (.bool r) ∧ Below w.heap.size w w' := by
  have HR0 := Aside0.mk hr0
  have HC0 := Aside0.mk hc0
  clear hr0 hc0
  have HB := Aside0.mk (Below.refl w.heap.size w)
  have H : ((paygen_New.f l0).bind fun bt350 => ((paygen_Deck_Book.f k bt350.1 bt350.2 6).bind fun bt353 => ((paygen_Mod.f a1 12).bind fun t357 => ((book_AsOf.f k bt353.1 t357).bind fun t358 => (if (t358.length : Int) > (bt353.1.length : Int) then (none) else (if 0 ≤ (t358.length : Int) then (if (t358.length : Int) ≤ (bt353.1.length : Int) then ((payrollref35_Same.f k t358 (bt353.1.take ((t358.length : Int) : Int).toNat)).bind fun t365 => (if t365 = true then (payrolllaw35_BookSums.l0 k bt353.1 t358 (bt353.1.drop ((t358.length : Int) : Int).toNat) 0) else (none))) else (none)) else (none))))))) = some r := h
  clear h
  replace H := Option.bind_eq_some_iff.mp H
  obtain ⟨⟨t350, t351⟩, A30, H⟩ := H
  replace H : ((paygen_Deck_Book.f k t350 t351 6).bind fun bt353 => ((paygen_Mod.f a1 12).bind fun t357 => ((book_AsOf.f k bt353.1 t357).bind fun t358 => (if (t358.length : Int) > (bt353.1.length : Int) then (none) else (if 0 ≤ (t358.length : Int) then (if (t358.length : Int) ≤ (bt353.1.length : Int) then ((payrollref35_Same.f k t358 (bt353.1.take ((t358.length : Int) : Int).toNat)).bind fun t365 => (if t365 = true then (payrolllaw35_BookSums.l0 k bt353.1 t358 (bt353.1.drop ((t358.length : Int) : Int).toNat) 0) else (none))) else (none)) else (none)))))) = some r := H
  have A3 := Aside0.mk A30
  clear A30
  replace H := Option.bind_eq_some_iff.mp H
  obtain ⟨⟨t353, t356⟩, A40, H⟩ := H
  replace H : ((paygen_Mod.f a1 12).bind fun t357 => ((book_AsOf.f k t353 t357).bind fun t358 => (if (t358.length : Int) > (t353.length : Int) then (none) else (if 0 ≤ (t358.length : Int) then (if (t358.length : Int) ≤ (t353.length : Int) then ((payrollref35_Same.f k t358 (t353.take ((t358.length : Int) : Int).toNat)).bind fun t365 => (if t365 = true then (payrolllaw35_BookSums.l0 k t353 t358 (t353.drop ((t358.length : Int) : Int).toNat) 0) else (none))) else (none)) else (none))))) = some r := H
  have A4 := Aside0.mk A40
  clear A40
  replace H := Option.bind_eq_some_iff.mp H
  obtain ⟨t357, A50, H⟩ := H
  replace H : ((book_AsOf.f k t353 t357).bind fun t358 => (if (t358.length : Int) > (t353.length : Int) then (none) else (if 0 ≤ (t358.length : Int) then (if (t358.length : Int) ≤ (t353.length : Int) then ((payrollref35_Same.f k t358 (t353.take ((t358.length : Int) : Int).toNat)).bind fun t365 => (if t365 = true then (payrolllaw35_BookSums.l0 k t353 t358 (t353.drop ((t358.length : Int) : Int).toNat) 0) else (none))) else (none)) else (none)))) = some r := H
  have A5 := Aside0.mk A50
  clear A50
  replace H := Option.bind_eq_some_iff.mp H
  obtain ⟨t358, A60, H⟩ := H
  replace H : (if (t358.length : Int) > (t353.length : Int) then (none) else (if 0 ≤ (t358.length : Int) then (if (t358.length : Int) ≤ (t353.length : Int) then ((payrollref35_Same.f k t358 (t353.take ((t358.length : Int) : Int).toNat)).bind fun t365 => (if t365 = true then (payrolllaw35_BookSums.l0 k t353 t358 (t353.drop ((t358.length : Int) : Int).toNat) 0) else (none))) else (none)) else (none))) = some r := H
  have A6 := Aside0.mk A60
  clear A60
  by_cases c7 : (t358.length : Int) > (t353.length : Int)
  · rw [if_pos c7] at H
    exact absurd H (by simp)
  · rw [if_neg c7] at H
    have c7b0 : decide ((t353.length : Int) < (t358.length : Int)) = false := decide_eq_false c7
    have c7b1 : decide (t353.length < t358.length) = false := decide_eq_false (fun h => c7 (Int.ofNat_lt.mpr h))
    clear c7
    by_cases c8 : 0 ≤ (t358.length : Int)
    · rw [if_pos c8] at H
      have c8b0 := eq_true c8
      have c8b1 : decide (0 ≤ (t358.length : Int)) = true := decide_eq_true c8
      clear c8
      by_cases c9 : (t358.length : Int) ≤ (t353.length : Int)
      · rw [if_pos c9] at H
        have c9b0 := eq_true c9
        have c9b1 : decide ((t358.length : Int) ≤ (t353.length : Int)) = true := decide_eq_true c9
        clear c9
        obtain ⟨y361, hy361⟩ : ∃ y_ : List (S27), y_ = (t353.take ((t358.length : Int) : Int).toNat) := ⟨_, rfl⟩
        replace H : ((payrollref35_Same.f k t358 y361).bind fun t365 => (if t365 = true then (payrolllaw35_BookSums.l0 k t353 t358 (t353.drop ((t358.length : Int) : Int).toNat) 0) else (none))) = some r := by first | (rw [hy361]; with_reducible exact H) | (have H2_ := (Option.bind_some _ _).symm.trans H; rw [hy361]; with_reducible exact H2_) | (have H2_ := (Option.bind_some _ _).symm.trans H; with_reducible exact H2_) | with_reducible exact H | (rw [hy361]; exact H) | exact H
        have Ny361 := Aside0.mk hy361
        clear hy361
        replace H := Option.bind_eq_some_iff.mp H
        obtain ⟨t365, A100, H⟩ := H
        replace H : (if t365 = true then (payrolllaw35_BookSums.l0 k t353 t358 (t353.drop ((t358.length : Int) : Int).toNat) 0) else (none)) = some r := H
        have A10 := Aside0.mk A100
        clear A100
        by_cases c11 : t365 = true
        · subst c11
          have H1 : (payrolllaw35_BookSums.l0 k t353 t358 (t353.drop ((t358.length : Int) : Int).toNat) 0) = some r := by rw [if_pos rfl] at H; exact H
          clear H
          have H := H1
          clear H1
          have c12b0 := eq_true (of_decide_eq_true (by first | (with_reducible assumption) | assumption) : 0 ≤ (t358.length : Int))
          have c13b0 := eq_true (of_decide_eq_true (by first | (with_reducible assumption) | assumption) : (t358.length : Int) ≤ (t353.length : Int))
          obtain ⟨y366, hy366⟩ : ∃ y_ : List (S27), y_ = (t353.drop ((t358.length : Int) : Int).toNat) := ⟨_, rfl⟩
          replace H : (payrolllaw35_BookSums.l0 k t353 t358 y366 0) = some r := by first | (rw [hy366]; with_reducible exact H) | (have H2_ := (Option.bind_some _ _).symm.trans H; rw [hy366]; with_reducible exact H2_) | (have H2_ := (Option.bind_some _ _).symm.trans H; with_reducible exact H2_) | with_reducible exact H | (rw [hy366]; exact H) | exact H
          have Ny366 := Aside0.mk hy366
          clear hy366
          have H' := Aside0.mk H
          clear H
          go_enter Try.func6, Try.ntmps6
          go_wp2_with (first | ((with_reducible refine gate_callee (f := 18) rfl ?_); refine goesL_ (some 19) rfl rfl Try.func18 (by kernel_rfl) rfl #[.slice A0 l0.length c0] rfl (by (try simp only [List.map_toArray, List.map_cons, List.map_nil]); first | done | rfl | (simp only [List.length_drop, List.length_take]; rfl)) ?_; (with_reducible refine (paygen_New.calls _ _ l0 t350 t351 w _ ?side1 ?side2 ?side3 A3.out).mono ?_); (case side1 => repeat (first | (with_reducible first | exact HB.out | apply below_alloc | apply pw_below_drewN | apply below_drew1) | exact HB.out)); (case side2 => exact HR0.out); (case side3 => exact HC0.out); rintro e w14 ⟨g352, rfl, hi, hb, hb2⟩; refine ⟨_, rfl, ?_⟩; have n0_ := Aside0.mk (hb); have n1_ := Aside0.mk (hi); clear HB; have HB := n0_; have HI352 := n1_; clear n0_ n1_; (try clear hb); (try clear hb2); (try clear hk); (try clear hi)) | ((with_reducible refine gate_callee (f := 19) rfl ?_); refine goesL_ (some 21) rfl rfl Try.func19 (by kernel_rfl) rfl #[.pointer (some ⟨g352, 0, none⟩), .int .i64 6] rfl (by (try simp only [List.map_toArray, List.map_cons, List.map_nil]); first | done | rfl | (simp only [List.length_drop, List.length_take]; rfl)) ?_; (with_reducible refine (paygen_Deck_Book.calls k g352 t350 t351 6 t353 t356 w _ ?side1 ?side2 A4.out).mono ?_); (case side1 => repeat (first | (with_reducible first | exact HI352.out | apply IsS64.alloc | apply IsS64.drewN | apply IsS64.drew | apply IsS64.set_1) | exact HI352.out)); (case side2 => repeat (first | (with_reducible first | exact HB.out | apply below_alloc | apply pw_below_drewN | apply below_drew1 | refine below_set ?_ (IsS64.ge HI352.out)) | exact HB.out)); rintro e w15 ⟨v354, rfl, ho0, hi, hb, hk⟩; refine ⟨_, rfl, ?_⟩; have n0_ := Aside0.mk (Kd.R_lower ho0 (below_size (by repeat (first | (with_reducible first | exact HB.out | apply below_alloc | apply pw_below_drewN | apply below_drew1 | refine below_set ?_ (IsS64.ge HI352.out)) | exact HB.out)))); have n1_ := Aside0.mk (hb); have n2_ := Aside0.mk (hi); clear HB; clear HI352; have HO355 := n0_; have HB := n1_; have HI352 := n2_; clear n0_ n1_ n2_; (try clear hb); (try clear hb2); (try clear hk); (try clear hi); (try clear ho0)) | ((with_reducible refine gate_callee (f := 11) rfl ?_); refine goesL_ (some 23) rfl rfl Try.func11 (by kernel_rfl) rfl #[.int .i64 a1, .int .i64 12] rfl (by (try simp only [List.map_toArray, List.map_cons, List.map_nil]); first | done | rfl | (simp only [List.length_drop, List.length_take]; rfl)) ?_; (with_reducible refine (paygen_Mod.calls a1 12 t357 _ A5.out).mono ?_); rintro e w' ⟨rfl, ⟨nd, rfl⟩⟩; refine ⟨_, rfl, ?_⟩; obtain ⟨Ao16, co16, eo16⟩ := Kd.R_slice HO355.out; subst eo16) | ((with_reducible refine gate_callee (f := 26) rfl ?_); refine goesL_ (some 26) rfl rfl Try.func26 (by kernel_rfl) rfl #[.slice Ao16 t353.length co16, .int .i64 t357] rfl (by (try simp only [List.map_toArray, List.map_cons, List.map_nil]); first | done | rfl | (simp only [List.length_drop, List.length_take]; rfl)) ?_; (with_reducible refine (book_AsOf.calls k _ _ t353 t357 t358 _ ?side1 ?side2 A6.out).mono ?_); (case side1 => repeat (first | exact (Kd.R_reads' HO355.out).2.2 | (with_reducible refine Kd.C_alloc ?_ _) | (with_reducible refine Kd.C_drewN ?_ _) | (with_reducible refine Kd.C_drew ?_))); (case side2 => exact (Kd.R_reads' HO355.out).2.1); rintro e w17 ⟨v359, rfl, ho0, hb⟩; refine ⟨_, rfl, ?_⟩; have n0_ := Aside0.mk (Kd.R_elder' (by (with_reducible repeat (first | apply Kd.R_alloc | apply Kd.R_drewN | apply Kd.R_drew)); exact HO355.out) (Kd.R_base ho0) hb); have n1_ := Aside0.mk (Kd.R_lower (Kd.R_new' ho0 (Kd.R_lt (by (with_reducible repeat (first | apply Kd.R_alloc | apply Kd.R_drewN | apply Kd.R_drew)); exact HO355.out))) (below_size (by repeat (first | (with_reducible first | exact HB.out | apply below_alloc | apply pw_below_drewN | apply below_drew1 | refine below_set ?_ (IsS64.ge HI352.out)) | exact HB.out)))); have n2_ := Aside0.mk (IsS64.below (by repeat (first | (with_reducible first | exact HI352.out | apply IsS64.alloc | apply IsS64.drewN | apply IsS64.drew | apply IsS64.set_1) | exact HI352.out)) hb); have n3_ := Aside0.mk (below_step (by repeat (first | (with_reducible first | exact HB.out | apply below_alloc | apply pw_below_drewN | apply below_drew1 | refine below_set ?_ (IsS64.ge HI352.out)) | exact HB.out)) hb); clear HO355; clear HI352; clear HB; have HO355 := n0_; have HO360 := n1_; have HI352 := n2_; have HB := n3_; clear n0_ n1_ n2_ n3_; (try clear hb); (try clear hb2); (try clear hk); (try clear hi); (try clear ho0); obtain ⟨Ao18, co18, eo18⟩ := Kd.R_slice HO360.out; subst eo18; have q19 : ((t358.length : Int) : Int) ≤ ((t353.length : Int) : Int) := of_decide_eq_true (by first | (with_reducible assumption) | assumption); obtain ⟨i019, hi019, _, hsz19, _⟩ := info_parts info27; have hroom19 : t353.length ≤ co16 := (Kd.R_reads' HO355.out).2.1; have hC19 : Kd.C k27 _ Ao16 t353.length t353 := (Kd.R_reads' HO355.out).2.2; have hcut19 := cut_to (P := Try.prog) 23 27 .i64 Try.underlying23 hi019 Ao16 t353.length co16 (t358.length : Int) (of_decide_eq_true (by first | (with_reducible assumption) | assumption)) q19 hroom19; have hr19 := Kd.C_take (m := ((t358.length : Int) : Int).toNat) hC19 (by omega); have hy19 : y361.length = ((t358.length : Int) : Int).toNat := (by rw [Ny361.out, List.length_take]; omega); rw [← Ny361.out] at hr19; rw [← hy19] at hcut19; have HR364 := Aside0.mk hr19; have HC364 := Aside0.mk (show y361.length ≤ co16 from by omega); clear hr19 hC19 hroom19 hi019 hsz19; have KY19 := Aside0.mk hy19; clear hy19; have KL19 := Aside0.mk (show ((t358.length : Int) : Int).toNat ≤ t353.length from by omega); replace q19 := eq_true q19) | (go_at_call 25; (with_reducible refine (payrollref35_Same.calls k _ _ t358 _ _ y361 true _ ?side1 ?side2 ?side3 ?side4 A10.out).mono ?_); (case side1 => repeat (first | exact (Kd.R_reads' HO360.out).2.2 | (with_reducible refine Kd.C_alloc ?_ _) | (with_reducible refine Kd.C_drewN ?_ _) | (with_reducible refine Kd.C_drew ?_))); (case side2 => exact (Kd.R_reads' HO360.out).2.1); (case side3 => repeat (first | exact (by repeat (first | (with_reducible exact HR364.out) | (with_reducible refine Kd.C_alloc ?_ _) | (with_reducible refine Kd.C_drewN ?_ _) | (with_reducible refine Kd.C_drew ?_) | exact HR364.out)) | (with_reducible refine Kd.C_alloc ?_ _) | (with_reducible refine Kd.C_drewN ?_ _) | (with_reducible refine Kd.C_drew ?_))); (case side4 => exact HC364.out); rintro e w' ⟨rfl, ⟨nd, rfl⟩⟩; have q20 : ((t358.length : Int) : Int) ≤ ((t353.length : Int) : Int) := of_decide_eq_true (by first | (with_reducible assumption) | assumption); obtain ⟨i020, hi020, _, hsz20, _⟩ := info_parts info27; have hroom20 : t353.length ≤ co16 := (Kd.R_reads' HO355.out).2.1; have hC20 : Kd.C k27 _ Ao16 t353.length t353 := (Kd.R_reads' HO355.out).2.2; have q020 : (0 : Int) ≤ ((t358.length : Int) : Int) := of_decide_eq_true (by first | (with_reducible assumption) | assumption); have hcut20 := cut_from (P := Try.prog) 23 27 .i64 Try.underlying23 hi020 6 hsz20 Ao16 t353.length co16 (t358.length : Int) q020 q20; have hr20 := Kd.C_drop (m := ((t358.length : Int) : Int).toNat) (c := co16) hC20 (by omega) hroom20; obtain ⟨A20, hA20⟩ : ∃ A1, A1 = (if co16 = ((t358.length : Int) : Int).toNat then Ao16 else (Ao16 : Option Addr).map (·.add (((t358.length : Int) : Int).toNat * 6))) := ⟨_, rfl⟩; obtain ⟨c20, hc20⟩ : ∃ c1, c1 = co16 - ((t358.length : Int) : Int).toNat := ⟨_, rfl⟩; have hy20 : y366.length = t353.length - ((t358.length : Int) : Int).toNat := (by rw [Ny366.out, List.length_drop] <;> omega); rw [show (t353).drop ((t358.length : Int) : Int).toNat = y366 from Ny366.out.symm] at hr20; replace hr20 : Kd.C k27 _ A20 y366.length y366 := (by rw [hA20]; exact hr20); rw [← hy20, ← hA20, ← hc20] at hcut20; have HR369 := Aside0.mk hr20; have HC369 := Aside0.mk (show y366.length ≤ c20 from by rw [hy20, hc20]; exact Nat.sub_le_sub_right hroom20 _); clear hr20 hC20 hroom20 hi020 hsz20 hc20; have KY20 := Aside0.mk hy20; have KA20 := Aside0.mk hA20; clear hy20 hA20; have KL20 := Aside0.mk (show ((t358.length : Int) : Int).toNat ≤ t353.length from by omega); replace q20 := eq_true q20))
          go_loopg [10] k (fun kq v10 w' => ∃ (x10_1 : Int), v10 = .int .i64 x10_1 ∧ Aside0 (payrolllaw35_BookSums.l0 kq t353 t358 y366 x10_1 = some r) ∧ Aside0 (kq ≤ k) ∧ Aside0 (Kd.R k27 27 w' w.heap.size (fun k_ => some k_ ≠ ((.slice Ao18 t358.length co18) : Value).ownBlock) (.slice Ao16 t353.length co16) t353) ∧ Aside0 (Kd.R k27 27 w' w.heap.size (fun k_ => some k_ ≠ ((.slice Ao16 t353.length co16) : Value).ownBlock) (.slice Ao18 t358.length co18) t358) ∧ Aside0 (Below w.heap.size w w'))
          case atStart => exact ⟨(0), (by first | rfl | (simp; done) | (simp [*]; done)), H', ⟨Nat.le_refl _⟩, ⟨by (with_reducible repeat (first | apply Kd.R_alloc | apply Kd.R_drewN | apply Kd.R_drew)); exact Kd.R_mono HO355.out (fun _ hk => hk.2)⟩, ⟨by (with_reducible repeat (first | apply Kd.R_alloc | apply Kd.R_drewN | apply Kd.R_drew)); exact Kd.R_mono HO360.out (fun _ hk => hk.2)⟩, ⟨by repeat (first | (with_reducible first | exact HB.out | apply below_alloc | apply pw_below_drewN | apply below_drew1 | refine below_set ?_ (IsS64.ge HI352.out)) | exact HB.out)⟩⟩
          case round =>
            clear H'
            try clear c1
            try clear q1
            try clear c2
            try clear p2
            try clear q2
            try clear c6
            try clear c7
            try clear c7b0
            try clear c7b1
            try clear c8
            try clear c8b0
            try clear c8b1
            try clear c9
            try clear c9b0
            try clear c9b1
            try clear c11
            try clear c12
            try clear c12b0
            try clear c13
            try clear c13b0
            try clear c18
            try clear c19
            try clear q19
            try clear c20
            try clear q20
            try clear q020
            try clear q19
            try clear q20
            obtain ⟨x10_1, rfl, HA, HK1, HO_6, HO_8, HB⟩ := hrel
            cases gk with
            | zero => exact absurd HA.out (by simp [payrolllaw35_BookSums.l0])
            | succ k1 =>
              have H := HA.out
              clear HA
              simp only [payrolllaw35_BookSums.l0] at H
              by_cases c21 : x10_1 < 3
              · rw [if_pos c21] at H
                have c21b0 : decide (x10_1 < 3) = true := decide_eq_true c21
                clear c21
                have H' := Aside0.mk H
                clear H
                go_wp2
                go_loopg [11, 12] k1 (fun kq v11 v12 w' => ∃ (x11_2 : List (S25)) (x12_2 : Int), v12 = .int .i64 x12_2 ∧ Aside0 (payrolllaw35_BookSums.l1 kq t353 t358 y366 x10_1 x11_2 x12_2 = some r) ∧ Aside0 (kq ≤ k1) ∧ Aside0 (Kd.R k27 27 w' w.heap.size (fun k_ => some k_ ≠ ((.slice Ao18 t358.length co18) : Value).ownBlock) (.slice Ao16 t353.length co16) t353) ∧ Aside0 (Kd.R k27 27 w' w.heap.size (fun k_ => some k_ ≠ ((.slice Ao16 t353.length co16) : Value).ownBlock) (.slice Ao18 t358.length co18) t358) ∧ Aside0 (Kd.R k25 25 w' w.heap.size (fun _ => True) v11 x11_2) ∧ Aside0 (Below w.heap.size w w'))
                case atStart => exact ⟨(([] : List (S25))), (1), (by first | rfl | (simp; done) | (simp [*]; done)), H', ⟨Nat.le_refl _⟩, ⟨by (with_reducible repeat (first | apply Kd.R_alloc | apply Kd.R_drewN | apply Kd.R_drew)); exact HO_6.out⟩, ⟨by (with_reducible repeat (first | apply Kd.R_alloc | apply Kd.R_drewN | apply Kd.R_drew)); exact HO_8.out⟩, ⟨by first | exact Kd.R_nil _ _ _ _ _ | exact Kd.N_nil _ _ _ _ _ | exact Kd.V_nil _ _ _ _ _ | exact Kd.Q_nil _ _ _ _ _ | exact Kd.S_nil _ _ _ _ _⟩, ⟨by repeat (first | (with_reducible first | exact HB.out | apply below_alloc | apply pw_below_drewN | apply below_drew1) | exact HB.out)⟩⟩
                case round =>
                  clear H'
                  try clear c1
                  try clear q1
                  try clear c2
                  try clear p2
                  try clear q2
                  try clear c6
                  try clear c7
                  try clear c7b0
                  try clear c7b1
                  try clear c8
                  try clear c8b0
                  try clear c8b1
                  try clear c9
                  try clear c9b0
                  try clear c9b1
                  try clear c11
                  try clear c12
                  try clear c12b0
                  try clear c13
                  try clear c13b0
                  try clear c18
                  try clear c19
                  try clear q19
                  try clear c20
                  try clear q20
                  try clear c21
                  try clear c21b0
                  try clear p2
                  try clear q020
                  try clear q1
                  try clear q19
                  try clear q2
                  try clear q20
                  obtain ⟨x11_2, x12_2, rfl, HA, HK2, HO_6, HO_8, HO_11, HB⟩ := hrel
                  cases gk with
                  | zero => exact absurd HA.out (by simp [payrolllaw35_BookSums.l1])
                  | succ k2 =>
                    have H := HA.out
                    clear HA
                    simp only [payrolllaw35_BookSums.l1] at H
                    by_cases c22 : x12_2 ≤ 3
                    · rw [if_pos c22] at H
                      have c22b0 : decide (x12_2 ≤ 3) = true := decide_eq_true c22
                      clear c22
                      replace H := Option.bind_eq_some_iff.mp H
                      obtain ⟨t370, A230, H⟩ := H
                      replace H : ((book_Result.f k2 t358 x12_2 x10_1).bind fun t373 => ((book_Result.f k2 y366 x12_2 x10_1).bind fun t376 => (if t373.length + t376.length < 4398046511104 then ((payslip_Merge.f k2 (t373 ++ t376)).bind fun bt382 => (if bt382.2 = 0 then ((payrollref32_Same.f k2 t370 bt382.1).bind fun t386 => (if t386 = true then (if x11_2.length + t370.length < 4398046511104 then (payrolllaw35_BookSums.l1 k2 t353 t358 y366 x10_1 (x11_2 ++ t370) (wrap64 (x12_2 + 1))) else (none)) else (none))) else (none))) else (none)))) = some r := H
                      have A23 := Aside0.mk A230
                      clear A230
                      replace H := Option.bind_eq_some_iff.mp H
                      obtain ⟨t373, A240, H⟩ := H
                      replace H : ((book_Result.f k2 y366 x12_2 x10_1).bind fun t376 => (if t373.length + t376.length < 4398046511104 then ((payslip_Merge.f k2 (t373 ++ t376)).bind fun bt382 => (if bt382.2 = 0 then ((payrollref32_Same.f k2 t370 bt382.1).bind fun t386 => (if t386 = true then (if x11_2.length + t370.length < 4398046511104 then (payrolllaw35_BookSums.l1 k2 t353 t358 y366 x10_1 (x11_2 ++ t370) (wrap64 (x12_2 + 1))) else (none)) else (none))) else (none))) else (none))) = some r := H
                      have A24 := Aside0.mk A240
                      clear A240
                      replace H := Option.bind_eq_some_iff.mp H
                      obtain ⟨t376, A250, H⟩ := H
                      replace H : (if t373.length + t376.length < 4398046511104 then ((payslip_Merge.f k2 (t373 ++ t376)).bind fun bt382 => (if bt382.2 = 0 then ((payrollref32_Same.f k2 t370 bt382.1).bind fun t386 => (if t386 = true then (if x11_2.length + t370.length < 4398046511104 then (payrolllaw35_BookSums.l1 k2 t353 t358 y366 x10_1 (x11_2 ++ t370) (wrap64 (x12_2 + 1))) else (none)) else (none))) else (none))) else (none)) = some r := H
                      have A25 := Aside0.mk A250
                      clear A250
                      by_cases c26 : t373.length + t376.length < 4398046511104
                      · rw [if_pos c26] at H
                        have LMc26 := Aside0.mk c26
                        clear c26
                        obtain ⟨y379, hy379⟩ : ∃ y_ : List (S25), y_ = (t373 ++ t376) := ⟨_, rfl⟩
                        replace H : ((payslip_Merge.f k2 y379).bind fun bt382 => (if bt382.2 = 0 then ((payrollref32_Same.f k2 t370 bt382.1).bind fun t386 => (if t386 = true then (if x11_2.length + t370.length < 4398046511104 then (payrolllaw35_BookSums.l1 k2 t353 t358 y366 x10_1 (x11_2 ++ t370) (wrap64 (x12_2 + 1))) else (none)) else (none))) else (none))) = some r := by first | (rw [hy379]; with_reducible exact H) | (have H2_ := (Option.bind_some _ _).symm.trans H; rw [hy379]; with_reducible exact H2_) | (have H2_ := (Option.bind_some _ _).symm.trans H; with_reducible exact H2_) | with_reducible exact H | (rw [hy379]; exact H) | exact H
                        have Ny379 := Aside0.mk hy379
                        clear hy379
                        replace H := Option.bind_eq_some_iff.mp H
                        obtain ⟨⟨t382, t383⟩, A270, H⟩ := H
                        replace H : (if t383 = 0 then ((payrollref32_Same.f k2 t370 t382).bind fun t386 => (if t386 = true then (if x11_2.length + t370.length < 4398046511104 then (payrolllaw35_BookSums.l1 k2 t353 t358 y366 x10_1 (x11_2 ++ t370) (wrap64 (x12_2 + 1))) else (none)) else (none))) else (none)) = some r := H
                        have A27 := Aside0.mk A270
                        clear A270
                        by_cases c28 : t383 = 0
                        · rw [if_pos c28] at H
                          have c28b0 : (t383 == 0) = true := beq_iff_eq.mpr c28
                          have c28b1 : (t383 != 0) = false := bne_eq_false_iff_eq.mpr c28
                          clear c28
                          replace H := Option.bind_eq_some_iff.mp H
                          obtain ⟨t386, A290, H⟩ := H
                          replace H : (if t386 = true then (if x11_2.length + t370.length < 4398046511104 then (payrolllaw35_BookSums.l1 k2 t353 t358 y366 x10_1 (x11_2 ++ t370) (wrap64 (x12_2 + 1))) else (none)) else (none)) = some r := H
                          have A29 := Aside0.mk A290
                          clear A290
                          by_cases c30 : t386 = true
                          · subst c30
                            have H1 : (if x11_2.length + t370.length < 4398046511104 then (payrolllaw35_BookSums.l1 k2 t353 t358 y366 x10_1 (x11_2 ++ t370) (wrap64 (x12_2 + 1))) else (none)) = some r := by rw [if_pos rfl] at H; exact H
                            clear H
                            have H := H1
                            clear H1
                            by_cases c31 : x11_2.length + t370.length < 4398046511104
                            · rw [if_pos c31] at H
                              have LMc31 := Aside0.mk c31
                              clear c31
                              obtain ⟨y387, hy387⟩ : ∃ y_ : List (S25), y_ = (x11_2 ++ t370) := ⟨_, rfl⟩
                              replace H : (payrolllaw35_BookSums.l1 k2 t353 t358 y366 x10_1 y387 (wrap64 (x12_2 + 1))) = some r := by first | (rw [hy387]; with_reducible exact H) | (have H2_ := (Option.bind_some _ _).symm.trans H; rw [hy387]; with_reducible exact H2_) | (have H2_ := (Option.bind_some _ _).symm.trans H; with_reducible exact H2_) | with_reducible exact H | (rw [hy387]; exact H) | exact H
                              have Ny387 := Aside0.mk hy387
                              clear hy387
                              have H' := Aside0.mk H
                              clear H
                              go_wp2_with (first | ((with_reducible refine gate_callee (f := 27) rfl ?_); refine goesL_ (some 56) rfl rfl Try.func27 (by kernel_rfl) rfl #[.slice Ao16 t353.length co16, .int .i64 x12_2, .int .i64 x10_1] rfl (by (try simp only [List.map_toArray, List.map_cons, List.map_nil]); first | done | rfl | (simp only [List.length_drop, List.length_take]; rfl)) ?_; (with_reducible refine (book_Result.calls k2 _ _ t353 x12_2 x10_1 t370 _ ?side1 ?side2 A23.out).mono ?_); (case side1 => repeat (first | exact (Kd.R_reads' HO_6.out).2.2 | (with_reducible refine Kd.C_alloc ?_ _) | (with_reducible refine Kd.C_drewN ?_ _) | (with_reducible refine Kd.C_drew ?_))); (case side2 => exact (Kd.R_reads' HO_6.out).2.1); rintro e w32 ⟨v371, rfl, ho0, hb⟩; refine ⟨_, rfl, ?_⟩; have n0_ := Aside0.mk (Kd.R_below (by (with_reducible repeat (first | apply Kd.R_alloc | apply Kd.R_drewN | apply Kd.R_drew)); exact HO_6.out) hb); have n1_ := Aside0.mk (Kd.R_below (by (with_reducible repeat (first | apply Kd.R_alloc | apply Kd.R_drewN | apply Kd.R_drew)); exact HO_8.out) hb); have n2_ := Aside0.mk (Kd.R_elder' (by (with_reducible repeat (first | apply Kd.R_alloc | apply Kd.R_drewN | apply Kd.R_drew)); exact HO_11.out) (Kd.R_base ho0) hb); have n3_ := Aside0.mk (Kd.R_lower (Kd.R_new' ho0 (Kd.R_lt (by (with_reducible repeat (first | apply Kd.R_alloc | apply Kd.R_drewN | apply Kd.R_drew)); exact HO_11.out))) (below_size (by repeat (first | (with_reducible first | exact HB.out | apply below_alloc | apply pw_below_drewN | apply below_drew1) | exact HB.out)))); have n4_ := Aside0.mk (below_step (by repeat (first | (with_reducible first | exact HB.out | apply below_alloc | apply pw_below_drewN | apply below_drew1) | exact HB.out)) hb); clear HO_6; clear HO_8; clear HO_11; clear HB; have HO_6 := n0_; have HO_8 := n1_; have HO_11 := n2_; have HO372 := n3_; have HB := n4_; clear n0_ n1_ n2_ n3_ n4_; (try clear hb); (try clear hb2); (try clear hk); (try clear hi); (try clear ho0)) | ((with_reducible refine gate_callee (f := 27) rfl ?_); refine goesL_ (some 61) rfl rfl Try.func27 (by kernel_rfl) rfl #[.slice Ao18 t358.length co18, .int .i64 x12_2, .int .i64 x10_1] rfl (by (try simp only [List.map_toArray, List.map_cons, List.map_nil]); first | done | rfl | (simp only [List.length_drop, List.length_take]; rfl)) ?_; (with_reducible refine (book_Result.calls k2 _ _ t358 x12_2 x10_1 t373 _ ?side1 ?side2 A24.out).mono ?_); (case side1 => repeat (first | exact (Kd.R_reads' HO_8.out).2.2 | (with_reducible refine Kd.C_alloc ?_ _) | (with_reducible refine Kd.C_drewN ?_ _) | (with_reducible refine Kd.C_drew ?_))); (case side2 => exact (Kd.R_reads' HO_8.out).2.1); rintro e w33 ⟨v374, rfl, ho0, hb⟩; refine ⟨_, rfl, ?_⟩; have n0_ := Aside0.mk (Kd.R_below (by (with_reducible repeat (first | apply Kd.R_alloc | apply Kd.R_drewN | apply Kd.R_drew)); exact HO_6.out) hb); have n1_ := Aside0.mk (Kd.R_below (by (with_reducible repeat (first | apply Kd.R_alloc | apply Kd.R_drewN | apply Kd.R_drew)); exact HO_8.out) hb); have n2_ := Aside0.mk (Kd.R_elder' (by (with_reducible repeat (first | apply Kd.R_alloc | apply Kd.R_drewN | apply Kd.R_drew)); exact HO_11.out) (Kd.R_base ho0) hb); have n3_ := Aside0.mk (Kd.R_elder' (by (with_reducible repeat (first | apply Kd.R_alloc | apply Kd.R_drewN | apply Kd.R_drew)); exact HO372.out) (Kd.R_base ho0) hb); have n4_ := Aside0.mk (Kd.R_lower (Kd.R_new' (Kd.R_new' ho0 (Kd.R_lt (by (with_reducible repeat (first | apply Kd.R_alloc | apply Kd.R_drewN | apply Kd.R_drew)); exact HO_11.out))) (Kd.R_lt (by (with_reducible repeat (first | apply Kd.R_alloc | apply Kd.R_drewN | apply Kd.R_drew)); exact HO372.out))) (below_size (by repeat (first | (with_reducible first | exact HB.out | apply below_alloc | apply pw_below_drewN | apply below_drew1) | exact HB.out)))); have n5_ := Aside0.mk (below_step (by repeat (first | (with_reducible first | exact HB.out | apply below_alloc | apply pw_below_drewN | apply below_drew1) | exact HB.out)) hb); clear HO_6; clear HO_8; clear HO_11; clear HO372; clear HB; have HO_6 := n0_; have HO_8 := n1_; have HO_11 := n2_; have HO372 := n3_; have HO375 := n4_; have HB := n5_; clear n0_ n1_ n2_ n3_ n4_ n5_; (try clear hb); (try clear hb2); (try clear hk); (try clear hi); (try clear ho0)) | ((with_reducible refine gate_callee (f := 27) rfl ?_); refine goesL_ (some 65) rfl rfl Try.func27 (by kernel_rfl) rfl #[.slice A20 y366.length c20, .int .i64 x12_2, .int .i64 x10_1] rfl (by (try simp only [List.map_toArray, List.map_cons, List.map_nil]); first | done | rfl | (simp only [List.length_drop, List.length_take]; rfl)) ?_; (with_reducible refine (book_Result.calls k2 _ _ y366 x12_2 x10_1 t376 _ ?side1 ?side2 A25.out).mono ?_); (case side1 => repeat (first | exact (by have hr_ := Kd.C_drop (m := (t358.length : Int).toNat) (c := co16) (Kd.R_reads' HO_6.out).2.2 KL20.out (Kd.R_reads' HO_6.out).2.1; rw [show (t353).drop (t358.length : Int).toNat = y366 from Ny366.out.symm] at hr_; rw [KA20.out]; first | exact hr_ | (rw [KY20.out]; exact hr_)) | (with_reducible refine Kd.C_alloc ?_ _) | (with_reducible refine Kd.C_drewN ?_ _) | (with_reducible refine Kd.C_drew ?_))); (case side2 => exact HC369.out); rintro e w34 ⟨v377, rfl, ho0, hb⟩; refine ⟨_, rfl, ?_⟩; have n0_ := Aside0.mk (Kd.R_below (by (with_reducible repeat (first | apply Kd.R_alloc | apply Kd.R_drewN | apply Kd.R_drew)); exact HO_6.out) hb); have n1_ := Aside0.mk (Kd.R_below (by (with_reducible repeat (first | apply Kd.R_alloc | apply Kd.R_drewN | apply Kd.R_drew)); exact HO_8.out) hb); have n2_ := Aside0.mk (Kd.R_elder' (by (with_reducible repeat (first | apply Kd.R_alloc | apply Kd.R_drewN | apply Kd.R_drew)); exact HO_11.out) (Kd.R_base ho0) hb); have n3_ := Aside0.mk (Kd.R_elder' (by (with_reducible repeat (first | apply Kd.R_alloc | apply Kd.R_drewN | apply Kd.R_drew)); exact HO372.out) (Kd.R_base ho0) hb); have n4_ := Aside0.mk (Kd.R_elder' (by (with_reducible repeat (first | apply Kd.R_alloc | apply Kd.R_drewN | apply Kd.R_drew)); exact HO375.out) (Kd.R_base ho0) hb); have n5_ := Aside0.mk (Kd.R_lower (Kd.R_new' (Kd.R_new' (Kd.R_new' ho0 (Kd.R_lt (by (with_reducible repeat (first | apply Kd.R_alloc | apply Kd.R_drewN | apply Kd.R_drew)); exact HO_11.out))) (Kd.R_lt (by (with_reducible repeat (first | apply Kd.R_alloc | apply Kd.R_drewN | apply Kd.R_drew)); exact HO372.out))) (Kd.R_lt (by (with_reducible repeat (first | apply Kd.R_alloc | apply Kd.R_drewN | apply Kd.R_drew)); exact HO375.out))) (below_size (by repeat (first | (with_reducible first | exact HB.out | apply below_alloc | apply pw_below_drewN | apply below_drew1) | exact HB.out)))); have n6_ := Aside0.mk (below_step (by repeat (first | (with_reducible first | exact HB.out | apply below_alloc | apply pw_below_drewN | apply below_drew1) | exact HB.out)) hb); clear HO_6; clear HO_8; clear HO_11; clear HO372; clear HO375; clear HB; have HO_6 := n0_; have HO_8 := n1_; have HO_11 := n2_; have HO372 := n3_; have HO375 := n4_; have HO378 := n5_; have HB := n6_; clear n0_ n1_ n2_ n3_ n4_ n5_ n6_; (try clear hb); (try clear hb2); (try clear hk); (try clear hi); (try clear ho0); obtain ⟨Ao36, co36, eo36⟩ := Kd.R_slice HO378.out; subst eo36) | ((with_reducible refine gate_builtin (b := .append) (xs := #[.tmp 61, .tmp 65]) rfl ?_); (try (refine gate_guard (by rfl) ?_; dsimp only)); at_builtin; refine Kd.R_append_rows k25 (w0 := w) w.heap.size rfl (.tmp 61) (.tmp 65) 47 25 (.agg #[(.int .i64 0), (.string ⟨#[]⟩), (.int .i64 0)]) 32 rfl Try.underlying47 info25 rfl (by decide) (by omega) v374 t373 t376 _ _ _ (fun k_ => some k_ ≠ (u11 : Value).ownBlock ∧ some k_ ≠ (v371 : Value).ownBlock ∧ some k_ ≠ (.slice Ao36 t376.length co36 : Value).ownBlock) (fun _ => False) rfl rfl ?aO ?aR (fun _ _ h => h) (fun _ h => h.elim) ?aF ?aB ?aS ?aL ?_; (case aR => repeat (first | exact (Kd.R_reads' HO378.out).2.2 | (with_reducible refine Kd.C_alloc ?_ _) | (with_reducible refine Kd.C_drewN ?_ _) | (with_reducible refine Kd.C_drew ?_))); (case aB => exact (by repeat (first | (with_reducible first | exact HB.out | apply below_alloc | apply pw_below_drewN | apply below_drew1) | exact HB.out))); (case aF => exact (fun k_ hk => ⟨Kd.fresh' (Kd.R_lt (by (with_reducible repeat (first | apply Kd.R_alloc | apply Kd.R_drewN | apply Kd.R_drew)); exact HO_11.out)) k_ hk, Kd.fresh' (Kd.R_lt (by (with_reducible repeat (first | apply Kd.R_alloc | apply Kd.R_drewN | apply Kd.R_drew)); exact HO372.out)) k_ hk, Kd.fresh' (Kd.R_lt (by (with_reducible repeat (first | apply Kd.R_alloc | apply Kd.R_drewN | apply Kd.R_drew)); exact HO378.out)) k_ hk⟩)); (case aO => exact (by (with_reducible repeat (first | apply Kd.R_alloc | apply Kd.R_drewN | apply Kd.R_drew)); exact Kd.R_mono HO375.out (fun _ hk => ⟨hk.1.1.2, ⟨hk.1.2, hk.2⟩⟩))); (case aS => exact (below_size (by repeat (first | (with_reducible first | exact HB.out | apply below_alloc | apply pw_below_drewN | apply below_drew1) | exact HB.out)))); (case aL => have := LMc26.out; omega); intro v380 w35 ho hb hg hat; rw [← Ny379.out] at ho; have n0_ := Aside0.mk (Kd.R_over' (by (with_reducible repeat (first | apply Kd.R_alloc | apply Kd.R_drewN | apply Kd.R_drew)); exact HO_6.out) (Kd.R_typed (by (with_reducible repeat (first | apply Kd.R_alloc | apply Kd.R_drewN | apply Kd.R_drew)); exact HO375.out)) (by decide) hg); have n1_ := Aside0.mk (Kd.R_over' (by (with_reducible repeat (first | apply Kd.R_alloc | apply Kd.R_drewN | apply Kd.R_drew)); exact HO_8.out) (Kd.R_typed (by (with_reducible repeat (first | apply Kd.R_alloc | apply Kd.R_drewN | apply Kd.R_drew)); exact HO375.out)) (by decide) hg); have n2_ := Aside0.mk (Kd.R_after (ok := (fun k_ => some k_ ≠ (v371 : Value).ownBlock ∧ some k_ ≠ (.slice Ao36 t376.length co36 : Value).ownBlock)) (by (with_reducible repeat (first | apply Kd.R_alloc | apply Kd.R_drewN | apply Kd.R_drew)); exact Kd.R_mono HO_11.out (fun _ hk => ⟨⟨hk.1.1.2, hk.2⟩, hk.1.2⟩)) hg hat); have n3_ := Aside0.mk (Kd.R_after (ok := (fun k_ => some k_ ≠ (u11 : Value).ownBlock ∧ some k_ ≠ (.slice Ao36 t376.length co36 : Value).ownBlock)) (by (with_reducible repeat (first | apply Kd.R_alloc | apply Kd.R_drewN | apply Kd.R_drew)); exact Kd.R_mono HO372.out (fun _ hk => ⟨⟨hk.1.1.2, hk.2⟩, hk.1.2⟩)) hg hat); have n4_ := Aside0.mk (Kd.R_after (ok := (fun k_ => some k_ ≠ (u11 : Value).ownBlock ∧ some k_ ≠ (v371 : Value).ownBlock)) (by (with_reducible repeat (first | apply Kd.R_alloc | apply Kd.R_drewN | apply Kd.R_drew)); exact Kd.R_mono HO378.out (fun _ hk => ⟨⟨hk.1.1.2, hk.1.2⟩, hk.2⟩)) hg hat); have n5_ := Aside0.mk (hb); have n6_ := Aside0.mk (ho); clear HO_6; clear HO_8; clear HO_11; clear HO372; clear HO378; clear HB; clear HO375; have HO_6 := n0_; have HO_8 := n1_; have HO_11 := n2_; have HO372 := n3_; have HO378 := n4_; have HB := n5_; have HO381 := n6_; clear n0_ n1_ n2_ n3_ n4_ n5_ n6_; clear ho hb hg hat; obtain ⟨Ao37, co37, eo37⟩ := Kd.R_slice HO381.out; subst eo37) | ((with_reducible refine gate_callee (f := 28) rfl ?_); refine goesL_ (some 67) rfl rfl Try.func28 (by kernel_rfl) rfl #[.slice Ao37 y379.length co37] rfl (by (try simp only [List.map_toArray, List.map_cons, List.map_nil]); first | done | rfl | (simp only [List.length_drop, List.length_take]; rfl)) ?_; (with_reducible refine (payslip_Merge.calls k2 _ _ y379 t382 t383 _ ?side1 ?side2 A27.out).mono ?_); (case side1 => repeat (first | exact (Kd.R_reads' HO381.out).2.2 | (with_reducible refine Kd.C_alloc ?_ _) | (with_reducible refine Kd.C_drewN ?_ _) | (with_reducible refine Kd.C_drew ?_))); (case side2 => exact (Kd.R_reads' HO381.out).2.1); rintro e w38 ⟨v384, rfl, ho0, hb⟩; refine ⟨_, rfl, ?_⟩; have n0_ := Aside0.mk (Kd.R_below (by (with_reducible repeat (first | apply Kd.R_alloc | apply Kd.R_drewN | apply Kd.R_drew)); exact HO_6.out) hb); have n1_ := Aside0.mk (Kd.R_below (by (with_reducible repeat (first | apply Kd.R_alloc | apply Kd.R_drewN | apply Kd.R_drew)); exact HO_8.out) hb); have n2_ := Aside0.mk (Kd.R_elder' (by (with_reducible repeat (first | apply Kd.R_alloc | apply Kd.R_drewN | apply Kd.R_drew)); exact HO_11.out) (Kd.R_base ho0) hb); have n3_ := Aside0.mk (Kd.R_elder' (by (with_reducible repeat (first | apply Kd.R_alloc | apply Kd.R_drewN | apply Kd.R_drew)); exact HO372.out) (Kd.R_base ho0) hb); have n4_ := Aside0.mk (Kd.R_elder' (by (with_reducible repeat (first | apply Kd.R_alloc | apply Kd.R_drewN | apply Kd.R_drew)); exact HO378.out) (Kd.R_base ho0) hb); have n5_ := Aside0.mk (Kd.R_elder' (by (with_reducible repeat (first | apply Kd.R_alloc | apply Kd.R_drewN | apply Kd.R_drew)); exact HO381.out) (Kd.R_base ho0) hb); have n6_ := Aside0.mk (Kd.R_lower (Kd.R_new' (Kd.R_new' (Kd.R_new' (Kd.R_new' ho0 (Kd.R_lt (by (with_reducible repeat (first | apply Kd.R_alloc | apply Kd.R_drewN | apply Kd.R_drew)); exact HO_11.out))) (Kd.R_lt (by (with_reducible repeat (first | apply Kd.R_alloc | apply Kd.R_drewN | apply Kd.R_drew)); exact HO372.out))) (Kd.R_lt (by (with_reducible repeat (first | apply Kd.R_alloc | apply Kd.R_drewN | apply Kd.R_drew)); exact HO378.out))) (Kd.R_lt (by (with_reducible repeat (first | apply Kd.R_alloc | apply Kd.R_drewN | apply Kd.R_drew)); exact HO381.out))) (below_size (by repeat (first | (with_reducible first | exact HB.out | apply below_alloc | apply pw_below_drewN | apply below_drew1) | exact HB.out)))); have n7_ := Aside0.mk (below_step (by repeat (first | (with_reducible first | exact HB.out | apply below_alloc | apply pw_below_drewN | apply below_drew1) | exact HB.out)) hb); clear HO_6; clear HO_8; clear HO_11; clear HO372; clear HO378; clear HO381; clear HB; have HO_6 := n0_; have HO_8 := n1_; have HO_11 := n2_; have HO372 := n3_; have HO378 := n4_; have HO381 := n5_; have HO385 := n6_; have HB := n7_; clear n0_ n1_ n2_ n3_ n4_ n5_ n6_ n7_; (try clear hb); (try clear hb2); (try clear hk); (try clear hi); (try clear ho0); obtain ⟨Ao39, co39, eo39⟩ := Kd.R_slice HO372.out; subst eo39; obtain ⟨Ao40, co40, eo40⟩ := Kd.R_slice HO385.out; subst eo40) | (go_at_call 29; (with_reducible refine (payrollref32_Same.calls k2 _ _ t370 _ _ t382 true _ ?side1 ?side2 ?side3 ?side4 A29.out).mono ?_); (case side1 => repeat (first | exact (Kd.R_reads' HO372.out).2.2 | (with_reducible refine Kd.C_alloc ?_ _) | (with_reducible refine Kd.C_drewN ?_ _) | (with_reducible refine Kd.C_drew ?_))); (case side2 => exact (Kd.R_reads' HO372.out).2.1); (case side3 => repeat (first | exact (Kd.R_reads' HO385.out).2.2 | (with_reducible refine Kd.C_alloc ?_ _) | (with_reducible refine Kd.C_drewN ?_ _) | (with_reducible refine Kd.C_drew ?_))); (case side4 => exact (Kd.R_reads' HO385.out).2.1); rintro e w' ⟨rfl, ⟨nd, rfl⟩⟩) | ((with_reducible refine gate_builtin (b := .append) (xs := #[.tmp 78, .tmp 79]) rfl ?_); (try (refine gate_guard (by rfl) ?_; dsimp only)); at_builtin; refine Kd.R_append_rows k25 (w0 := w) w.heap.size rfl (.tmp 78) (.tmp 79) 47 25 (.agg #[(.int .i64 0), (.string ⟨#[]⟩), (.int .i64 0)]) 32 rfl Try.underlying47 info25 rfl (by decide) (by omega) u11 x11_2 t370 _ _ _ (fun k_ => some k_ ≠ (.slice Ao39 t370.length co39 : Value).ownBlock ∧ some k_ ≠ (.slice Ao36 t376.length co36 : Value).ownBlock ∧ some k_ ≠ (.slice Ao37 y379.length co37 : Value).ownBlock ∧ some k_ ≠ (.slice Ao40 t382.length co40 : Value).ownBlock) (fun _ => False) rfl rfl ?aO ?aR (fun _ _ h => h) (fun _ h => h.elim) ?aF ?aB ?aS ?aL ?_; (case aR => repeat (first | exact (Kd.R_reads' HO372.out).2.2 | (with_reducible refine Kd.C_alloc ?_ _) | (with_reducible refine Kd.C_drewN ?_ _) | (with_reducible refine Kd.C_drew ?_))); (case aB => exact (by repeat (first | (with_reducible first | exact HB.out | apply below_alloc | apply pw_below_drewN | apply below_drew1) | exact HB.out))); (case aF => exact (fun k_ hk => ⟨Kd.fresh' (Kd.R_lt (by (with_reducible repeat (first | apply Kd.R_alloc | apply Kd.R_drewN | apply Kd.R_drew)); exact HO372.out)) k_ hk, Kd.fresh' (Kd.R_lt (by (with_reducible repeat (first | apply Kd.R_alloc | apply Kd.R_drewN | apply Kd.R_drew)); exact HO378.out)) k_ hk, Kd.fresh' (Kd.R_lt (by (with_reducible repeat (first | apply Kd.R_alloc | apply Kd.R_drewN | apply Kd.R_drew)); exact HO381.out)) k_ hk, Kd.fresh' (Kd.R_lt (by (with_reducible repeat (first | apply Kd.R_alloc | apply Kd.R_drewN | apply Kd.R_drew)); exact HO385.out)) k_ hk⟩)); (case aO => exact (by (with_reducible repeat (first | apply Kd.R_alloc | apply Kd.R_drewN | apply Kd.R_drew)); exact Kd.R_mono HO_11.out (fun _ hk => ⟨hk.1.1.1, ⟨hk.1.1.2, ⟨hk.1.2, hk.2⟩⟩⟩))); (case aS => exact (below_size (by repeat (first | (with_reducible first | exact HB.out | apply below_alloc | apply pw_below_drewN | apply below_drew1) | exact HB.out)))); (case aL => have := LMc31.out; omega); intro v388 w41 ho hb hg hat; rw [← Ny387.out] at ho; have n0_ := Aside0.mk (Kd.R_over' (by (with_reducible repeat (first | apply Kd.R_alloc | apply Kd.R_drewN | apply Kd.R_drew)); exact HO_6.out) (Kd.R_typed (by (with_reducible repeat (first | apply Kd.R_alloc | apply Kd.R_drewN | apply Kd.R_drew)); exact HO_11.out)) (by decide) hg); have n1_ := Aside0.mk (Kd.R_over' (by (with_reducible repeat (first | apply Kd.R_alloc | apply Kd.R_drewN | apply Kd.R_drew)); exact HO_8.out) (Kd.R_typed (by (with_reducible repeat (first | apply Kd.R_alloc | apply Kd.R_drewN | apply Kd.R_drew)); exact HO_11.out)) (by decide) hg); have n2_ := Aside0.mk (Kd.R_after (ok := (fun k_ => some k_ ≠ (.slice Ao36 t376.length co36 : Value).ownBlock ∧ some k_ ≠ (.slice Ao37 y379.length co37 : Value).ownBlock ∧ some k_ ≠ (.slice Ao40 t382.length co40 : Value).ownBlock)) (by (with_reducible repeat (first | apply Kd.R_alloc | apply Kd.R_drewN | apply Kd.R_drew)); exact Kd.R_mono HO372.out (fun _ hk => ⟨⟨hk.1.1.2, ⟨hk.1.2, hk.2⟩⟩, hk.1.1.1⟩)) hg hat); have n3_ := Aside0.mk (Kd.R_after (ok := (fun k_ => some k_ ≠ (.slice Ao39 t370.length co39 : Value).ownBlock ∧ some k_ ≠ (.slice Ao37 y379.length co37 : Value).ownBlock ∧ some k_ ≠ (.slice Ao40 t382.length co40 : Value).ownBlock)) (by (with_reducible repeat (first | apply Kd.R_alloc | apply Kd.R_drewN | apply Kd.R_drew)); exact Kd.R_mono HO378.out (fun _ hk => ⟨⟨hk.1.1.2, ⟨hk.1.2, hk.2⟩⟩, hk.1.1.1⟩)) hg hat); have n4_ := Aside0.mk (Kd.R_after (ok := (fun k_ => some k_ ≠ (.slice Ao39 t370.length co39 : Value).ownBlock ∧ some k_ ≠ (.slice Ao36 t376.length co36 : Value).ownBlock ∧ some k_ ≠ (.slice Ao40 t382.length co40 : Value).ownBlock)) (by (with_reducible repeat (first | apply Kd.R_alloc | apply Kd.R_drewN | apply Kd.R_drew)); exact Kd.R_mono HO381.out (fun _ hk => ⟨⟨hk.1.2.1, ⟨hk.1.2.2, hk.2⟩⟩, hk.1.1⟩)) hg hat); have n5_ := Aside0.mk (Kd.R_after (ok := (fun k_ => some k_ ≠ (.slice Ao39 t370.length co39 : Value).ownBlock ∧ some k_ ≠ (.slice Ao36 t376.length co36 : Value).ownBlock ∧ some k_ ≠ (.slice Ao37 y379.length co37 : Value).ownBlock)) (by (with_reducible repeat (first | apply Kd.R_alloc | apply Kd.R_drewN | apply Kd.R_drew)); exact Kd.R_mono HO385.out (fun _ hk => ⟨⟨hk.1.1.2, ⟨hk.1.2, hk.2⟩⟩, hk.1.1.1.2⟩)) hg hat); have n6_ := Aside0.mk (hb); have n7_ := Aside0.mk (ho); clear HO_6; clear HO_8; clear HO372; clear HO378; clear HO381; clear HO385; clear HB; clear HO_11; have HO_6 := n0_; have HO_8 := n1_; have HO372 := n2_; have HO378 := n3_; have HO381 := n4_; have HO385 := n5_; have HB := n6_; have HO389 := n7_; clear n0_ n1_ n2_ n3_ n4_ n5_ n6_ n7_; clear ho hb hg hat))
                              go_roundg k2
                              case measure => have := HK1.out; have := HK2.out; omega
                              case rel => exact ⟨(y387), (wrap64 (x12_2 + 1)), (by first | rfl | (simp; done) | (simp [*]; done)), H', ⟨by have := HK1.out; have := HK2.out; omega⟩, ⟨by (with_reducible repeat (first | apply Kd.R_alloc | apply Kd.R_drewN | apply Kd.R_drew)); exact HO_6.out⟩, ⟨by (with_reducible repeat (first | apply Kd.R_alloc | apply Kd.R_drewN | apply Kd.R_drew)); exact HO_8.out⟩, ⟨by (with_reducible repeat (first | apply Kd.R_alloc | apply Kd.R_drewN | apply Kd.R_drew)); exact Kd.R_mono HO389.out (fun _ hk => trivial)⟩, ⟨by repeat (first | (with_reducible first | exact HB.out | apply below_alloc | apply pw_below_drewN | apply below_drew1) | exact HB.out)⟩⟩
                            · rw [if_neg c31] at H
                              exact absurd H (by simp)
                          · replace c30 := Bool.eq_false_iff.mpr c30
                            subst c30
                            have H1 : (none) = some r := by rw [if_neg (show ¬ (false = true) by decide)] at H; exact H
                            clear H
                            have H := H1
                            clear H1
                            exact absurd H (by simp)
                        · rw [if_neg c28] at H
                          exact absurd H (by simp)
                      · rw [if_neg c26] at H
                        exact absurd H (by simp)
                    · rw [if_neg c22] at H
                      have c22b0 : decide (x12_2 ≤ 3) = false := decide_eq_false c22
                      clear c22
                      replace H := Option.bind_eq_some_iff.mp H
                      obtain ⟨⟨t390, t391⟩, A420, H⟩ := H
                      replace H : (if t391 = 0 then ((book_Period.f k2 t353 x10_1).bind fun t394 => ((payrollref32_Same.f k2 t390 t394).bind fun t397 => (if t397 = true then (payrolllaw35_BookSums.l0 k2 t353 t358 y366 (wrap64 (x10_1 + 1))) else (none)))) else (none)) = some r := H
                      have A42 := Aside0.mk A420
                      clear A420
                      by_cases c43 : t391 = 0
                      · rw [if_pos c43] at H
                        have c43b0 : (t391 == 0) = true := beq_iff_eq.mpr c43
                        have c43b1 : (t391 != 0) = false := bne_eq_false_iff_eq.mpr c43
                        clear c43
                        replace H := Option.bind_eq_some_iff.mp H
                        obtain ⟨t394, A440, H⟩ := H
                        replace H : ((payrollref32_Same.f k2 t390 t394).bind fun t397 => (if t397 = true then (payrolllaw35_BookSums.l0 k2 t353 t358 y366 (wrap64 (x10_1 + 1))) else (none))) = some r := H
                        have A44 := Aside0.mk A440
                        clear A440
                        replace H := Option.bind_eq_some_iff.mp H
                        obtain ⟨t397, A450, H⟩ := H
                        replace H : (if t397 = true then (payrolllaw35_BookSums.l0 k2 t353 t358 y366 (wrap64 (x10_1 + 1))) else (none)) = some r := H
                        have A45 := Aside0.mk A450
                        clear A450
                        by_cases c46 : t397 = true
                        · subst c46
                          have H1 : (payrolllaw35_BookSums.l0 k2 t353 t358 y366 (wrap64 (x10_1 + 1))) = some r := by rw [if_pos rfl] at H; exact H
                          clear H
                          have H := H1
                          clear H1
                          have H' := Aside0.mk H
                          clear H
                          obtain ⟨Ao47, co47, eo47⟩ := Kd.R_slice HO_11.out
                          subst eo47
                          go_wp2_with (first | ((with_reducible refine gate_callee (f := 28) rfl ?_); refine goesL_ (some 83) rfl rfl Try.func28 (by kernel_rfl) rfl #[.slice Ao47 x11_2.length co47] rfl (by (try simp only [List.map_toArray, List.map_cons, List.map_nil]); first | done | rfl | (simp only [List.length_drop, List.length_take]; rfl)) ?_; (with_reducible refine (payslip_Merge.calls k2 _ _ x11_2 t390 t391 _ ?side1 ?side2 A42.out).mono ?_); (case side1 => repeat (first | exact (Kd.R_reads' HO_11.out).2.2 | (with_reducible refine Kd.C_alloc ?_ _) | (with_reducible refine Kd.C_drewN ?_ _) | (with_reducible refine Kd.C_drew ?_))); (case side2 => exact (Kd.R_reads' HO_11.out).2.1); rintro e w48 ⟨v392, rfl, ho0, hb⟩; refine ⟨_, rfl, ?_⟩; have n0_ := Aside0.mk (Kd.R_below (by (with_reducible repeat (first | apply Kd.R_alloc | apply Kd.R_drewN | apply Kd.R_drew)); exact HO_6.out) hb); have n1_ := Aside0.mk (Kd.R_below (by (with_reducible repeat (first | apply Kd.R_alloc | apply Kd.R_drewN | apply Kd.R_drew)); exact HO_8.out) hb); have n2_ := Aside0.mk (Kd.R_elder' (by (with_reducible repeat (first | apply Kd.R_alloc | apply Kd.R_drewN | apply Kd.R_drew)); exact HO_11.out) (Kd.R_base ho0) hb); have n3_ := Aside0.mk (Kd.R_lower (Kd.R_new' ho0 (Kd.R_lt (by (with_reducible repeat (first | apply Kd.R_alloc | apply Kd.R_drewN | apply Kd.R_drew)); exact HO_11.out))) (below_size (by repeat (first | (with_reducible first | exact HB.out | apply below_alloc | apply pw_below_drewN | apply below_drew1) | exact HB.out)))); have n4_ := Aside0.mk (below_step (by repeat (first | (with_reducible first | exact HB.out | apply below_alloc | apply pw_below_drewN | apply below_drew1) | exact HB.out)) hb); clear HO_6; clear HO_8; clear HO_11; clear HB; have HO_6 := n0_; have HO_8 := n1_; have HO_11 := n2_; have HO393 := n3_; have HB := n4_; clear n0_ n1_ n2_ n3_ n4_; (try clear hb); (try clear hb2); (try clear hk); (try clear hi); (try clear ho0)) | (go_at_call 30; (with_reducible refine (book_Period.calls k2 _ _ t353 x10_1 t394 _ ?side1 ?side2 A44.out).mono ?_); (case side1 => repeat (first | exact (Kd.R_reads' HO_6.out).2.2 | (with_reducible refine Kd.C_alloc ?_ _) | (with_reducible refine Kd.C_drewN ?_ _) | (with_reducible refine Kd.C_drew ?_))); (case side2 => exact (Kd.R_reads' HO_6.out).2.1); rintro e w49 ⟨v395, rfl, ho0, hb⟩; have n0_ := Aside0.mk (Kd.R_below (by (with_reducible repeat (first | apply Kd.R_alloc | apply Kd.R_drewN | apply Kd.R_drew)); exact HO_6.out) hb); have n1_ := Aside0.mk (Kd.R_below (by (with_reducible repeat (first | apply Kd.R_alloc | apply Kd.R_drewN | apply Kd.R_drew)); exact HO_8.out) hb); have n2_ := Aside0.mk (Kd.R_elder' (by (with_reducible repeat (first | apply Kd.R_alloc | apply Kd.R_drewN | apply Kd.R_drew)); exact HO_11.out) (Kd.R_base ho0) hb); have n3_ := Aside0.mk (Kd.R_elder' (by (with_reducible repeat (first | apply Kd.R_alloc | apply Kd.R_drewN | apply Kd.R_drew)); exact HO393.out) (Kd.R_base ho0) hb); have n4_ := Aside0.mk (Kd.R_lower (Kd.R_new' (Kd.R_new' ho0 (Kd.R_lt (by (with_reducible repeat (first | apply Kd.R_alloc | apply Kd.R_drewN | apply Kd.R_drew)); exact HO_11.out))) (Kd.R_lt (by (with_reducible repeat (first | apply Kd.R_alloc | apply Kd.R_drewN | apply Kd.R_drew)); exact HO393.out))) (below_size (by repeat (first | (with_reducible first | exact HB.out | apply below_alloc | apply pw_below_drewN | apply below_drew1) | exact HB.out)))); have n5_ := Aside0.mk (below_step (by repeat (first | (with_reducible first | exact HB.out | apply below_alloc | apply pw_below_drewN | apply below_drew1) | exact HB.out)) hb); clear HO_6; clear HO_8; clear HO_11; clear HO393; clear HB; have HO_6 := n0_; have HO_8 := n1_; have HO_11 := n2_; have HO393 := n3_; have HO396 := n4_; have HB := n5_; clear n0_ n1_ n2_ n3_ n4_ n5_; (try clear hb); (try clear hb2); (try clear hk); (try clear hi); (try clear ho0); obtain ⟨Ao50, co50, eo50⟩ := Kd.R_slice HO393.out; subst eo50; obtain ⟨Ao51, co51, eo51⟩ := Kd.R_slice HO396.out; subst eo51) | (go_at_call 29; (with_reducible refine (payrollref32_Same.calls k2 _ _ t390 _ _ t394 true _ ?side1 ?side2 ?side3 ?side4 A45.out).mono ?_); (case side1 => repeat (first | exact (Kd.R_reads' HO393.out).2.2 | (with_reducible refine Kd.C_alloc ?_ _) | (with_reducible refine Kd.C_drewN ?_ _) | (with_reducible refine Kd.C_drew ?_))); (case side2 => exact (Kd.R_reads' HO393.out).2.1); (case side3 => repeat (first | exact (Kd.R_reads' HO396.out).2.2 | (with_reducible refine Kd.C_alloc ?_ _) | (with_reducible refine Kd.C_drewN ?_ _) | (with_reducible refine Kd.C_drew ?_))); (case side4 => exact (Kd.R_reads' HO396.out).2.1); rintro e w' ⟨rfl, ⟨nd, rfl⟩⟩))
                          go_roundg k2
                          case measure => have := HK1.out; have := HK2.out; omega
                          case rel => exact ⟨(wrap64 (x10_1 + 1)), (by first | rfl | (simp; done) | (simp [*]; done)), H', ⟨by have := HK1.out; have := HK2.out; omega⟩, ⟨by (with_reducible repeat (first | apply Kd.R_alloc | apply Kd.R_drewN | apply Kd.R_drew)); exact HO_6.out⟩, ⟨by (with_reducible repeat (first | apply Kd.R_alloc | apply Kd.R_drewN | apply Kd.R_drew)); exact HO_8.out⟩, ⟨by repeat (first | (with_reducible first | exact HB.out | apply below_alloc | apply pw_below_drewN | apply below_drew1) | exact HB.out)⟩⟩
                        · replace c46 := Bool.eq_false_iff.mpr c46
                          subst c46
                          have H1 : (none) = some r := by rw [if_neg (show ¬ (false = true) by decide)] at H; exact H
                          clear H
                          have H := H1
                          clear H1
                          exact absurd H (by simp)
                      · rw [if_neg c43] at H
                        exact absurd H (by simp)
              · rw [if_neg c21] at H
                have c21b0 : decide (x10_1 < 3) = false := decide_eq_false c21
                clear c21
                replace H := Option.bind_eq_some_iff.mp H
                obtain ⟨t398, A520, H⟩ := H
                replace H : (some t398) = some r := H
                have A52 := Aside0.mk A520
                clear A520
                obtain rfl := Option.some.inj H
                go_wp2_with (first | ((with_reducible refine gate_callee (f := 16) rfl ?_); refine goesL_ (some 96) rfl rfl Try.func16 (by kernel_rfl) rfl #[] rfl (by (try simp only [List.map_toArray, List.map_cons, List.map_nil]); first | done | rfl | (simp only [List.length_drop, List.length_take]; rfl)) ?_; (with_reducible refine (payrolllaw35_awake.calls k1  t398 _ A52.out).mono ?_); rintro e w53 ⟨rfl, hb⟩; refine ⟨_, rfl, ?_⟩; have n0_ := Aside0.mk (Kd.R_below (by (with_reducible repeat (first | apply Kd.R_alloc | apply Kd.R_drewN | apply Kd.R_drew)); exact HO_6.out) hb); have n1_ := Aside0.mk (Kd.R_below (by (with_reducible repeat (first | apply Kd.R_alloc | apply Kd.R_drewN | apply Kd.R_drew)); exact HO_8.out) hb); have n2_ := Aside0.mk (below_step (by repeat (first | (with_reducible first | exact HB.out | apply below_alloc | apply pw_below_drewN | apply below_drew1) | exact HB.out)) hb); clear HO_6; clear HO_8; clear HB; have HO_6 := n0_; have HO_8 := n1_; have HB := n2_; clear n0_ n1_ n2_; (try clear hb); (try clear hb2); (try clear hk); (try clear hi)))
                go_ret
                exact ⟨by first | rfl | (simp [errW_none, errW_some] <;> rfl) | (simp [*, errW_none, errW_some] <;> rfl), by repeat (first | (with_reducible first | exact HB.out | apply below_alloc | apply pw_below_drewN | apply below_drew1) | exact HB.out)⟩
        · replace c11 := Bool.eq_false_iff.mpr c11
          subst c11
          have H1 : (none) = some r := by rw [if_neg (show ¬ (false = true) by decide)] at H; exact H
          clear H
          have H := H1
          clear H1
          exact absurd H (by simp)
      · rw [if_neg c9] at H
        exact absurd H (by simp)
    · rw [if_neg c8] at H
      exact absurd H (by simp)

/-- THE ONE PURE STATEMENT of payrolllaw35_BookSums: yours. -/
def payrolllaw35_BookSums.Pure : Prop := ∀ (l0 : List Int) (a1 : Int), l0.length ≤ maxLen → l0.length * 8 ≤ 140737488351232 → (∀ x ∈ l0, (Lit.int .i64 x).wf = true) → (Lit.int .i64 a1).wf = true → ∃ k, payrolllaw35_BookSums.f k l0 a1 = some true
theorem payrolllaw35_BookSums.walk (P : payrolllaw35_BookSums.Pure) (a0 : Option Addr) (len0 cap0 : Nat) (z0 : List Int) (a1 : Int) (w : World) (w0 : (a0 = none ∧ len0 = 0 ∧ cap0 = 0 ∧ z0 = []) ∨ ∃ x, a0 = some x ∧ len0 ≤ cap0 ∧ cap0 ≤ maxLen ∧ z0.length = cap0 ∧ (∀ i, i < z0.length → w.cell? (x.add i) = some (.int .i64 (z0.getD i 0))) ∧ ∀ n ∈ z0, (Lit.int .i64 n).wf = true) (y0 : len0 * 8 ≤ 140737488351232) (w1 : (Lit.int .i64 a1).wf = true) :
    Calls Try.prog 6 #[.slice a0 len0 cap0, .int .i64 a1] w fun e w' => e = .returned (.bool true) ∧ Below w.heap.size w w' := by
  obtain ⟨l0, rfl, hr0, hm0, hw0, hc0⟩ := ReadsInt.ofRowC w0
  obtain ⟨k, h⟩ := P l0 a1 hm0 y0 hw0 w1
  refine (payrolllaw35_BookSums.calls k _ _ l0 a1 true w (Kd.C_of_reads (d := (0 : Int)) (h1 := fun _ => rfl) hr0) hc0 h).mono ?_
  rintro e w' ⟨rfl, hd⟩
  exact ⟨rfl, hd⟩

end Go.Proofs.Ytelmnkmpkljboaa.Q
