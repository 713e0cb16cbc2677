-- Printed by wip/xprint.py over the translation, with contracts proved by hand among them. Lean checks it.
import Derived.Test.YtbmcddmhfnnccaaQx0
import Derived.Test.YtbmcddmhfnnccaaQx6
import Derived.Test.YtbmcddmhfnnccaaQx7
import Derived.Test.YtbmcddmhfnnccaaQx10
import Derived.Test.YtbmcddmhfnnccaaQx13
namespace Go.Proofs.Ytbmcddmhfnnccaa.Q
open Go.RowKit Go.Proofs.YtbmcddmhfnnccaaW.PrintWords Go.Proofs.YtbmcddmhfnnccaaW.PrintLast Go.Proofs.YtbmcddmhfnnccaaW.PrintMore
attribute [local go_sem] max2_int min2_int max_two min_two max_three min_three max_four min_four   -- for this text's walks alone
set_option linter.unusedVariables false
set_option linter.unusedSimpArgs false

/-! ### payrolllaw26_WageMerges: function 5 -/
def payrolllaw26_WageMerges.l0 : Nat → List (S44) → List (S44) → Int → List Int → Int → Option (Bool)
  | 0, _, _, _, _, _ => none
  | k + 1, x0, x6, x7, x292000, x292001 => if x7 < 12 then ((paygen_Deck_Left.f x292000 x292001).bind fun bt292 => (if bt292.1 = true then ((paygen_Deck_Code.f x292000 bt292.2).bind fun bt294 => ((paygen_Deck_Amount.f x292000 bt294.2).bind fun bt296 => ((paygen_Deck_Pick.f x292000 bt296.2 (([1, (-1)] : List Int))).bind fun bt301 => (if x6.length < 5864062014805 then (payrolllaw26_WageMerges.l0 k x0 (x6 ++ [(⟨bt294.1, wrap64 (bt296.1 * bt301.1)⟩ : S44)]) (wrap64 (x7 + 1)) x292000 bt301.2) else (none))))) else ((wage_Merge.f k x0).bind fun bt306 => ((payrollref26_Merge.f k x0).bind fun bt310 => ((wage_Merge.f k x6).bind fun bt314 => ((payrollref26_Merge.f k x6).bind fun bt318 => (if bt306.2 = bt310.2 then ((payrollref26_Same.f k bt306.1 bt310.1).bind fun t322 => (if t322 = true then (if bt314.2 = bt318.2 then ((payrollref26_Same.f k bt314.1 bt318.1).bind fun t323 => (if t323 = true then ((payrolllaw26_awake.f k).bind fun t324 => (some t324)) else (none))) else (none)) else (none))) else (none)))))))) else ((wage_Merge.f k x0).bind fun bt325 => ((payrollref26_Merge.f k x0).bind fun bt329 => ((wage_Merge.f k x6).bind fun bt333 => ((payrollref26_Merge.f k x6).bind fun bt337 => (if bt325.2 = bt329.2 then ((payrollref26_Same.f k bt325.1 bt329.1).bind fun t341 => (if t341 = true then (if bt333.2 = bt337.2 then ((payrollref26_Same.f k bt333.1 bt337.1).bind fun t342 => (if t342 = true then ((payrolllaw26_awake.f k).bind fun t343 => (some t343)) else (none))) else (none)) else (none))) else (none))))))
def payrolllaw26_WageMerges.f (k : Nat) (l0 : List (S44)) (l1 : List Int) : Option (Bool) := (paygen_ShortElements.f k l0).bind fun t288 => (if t288 = true then ((paygen_New.f l1).bind fun bt289 => (payrolllaw26_WageMerges.l0 k l0 ([] : List (S44)) 0 bt289.1 bt289.2)) else ((payrolllaw26_awake.f k).bind fun t344 => (some t344)))
theorem payrolllaw26_WageMerges.mono_l : ∀ k, (∀ y0 y1 y2 y3 y4, LeO (payrolllaw26_WageMerges.l0 k y0 y1 y2 y3 y4) (payrolllaw26_WageMerges.l0 (k + 1) y0 y1 y2 y3 y4))
  | 0 => fun _ _ _ _ _ r h => by simp [payrolllaw26_WageMerges.l0] at h
  | k + 1 => by
    have ih0 := payrolllaw26_WageMerges.mono_l k
    · intro y0 y1 y2 y3 y4
      unfold payrolllaw26_WageMerges.l0
      repeat' first
      | (with_reducible exact ih0 _ _ _ _ _)
      | (with_reducible exact paygen_ShortElements.mono _ _)
      | (with_reducible exact payrolllaw26_awake.mono _)
      | (with_reducible exact payrollref26_Merge.mono _ _)
      | (with_reducible exact payrollref26_Same.mono _ _ _)
      | (with_reducible exact wage_Merge.mono _ _)
      | (with_reducible exact LeO.refl _)
      | (with_reducible exact LeO.none _)
      | (with_reducible refine LeO.ite ?_ ?_)
      | (with_reducible refine LeO.bind ?_ (fun _ => ?_))
      | exact ih0 _ _ _ _ _
      | exact paygen_ShortElements.mono _ _
      | exact payrolllaw26_awake.mono _
      | exact payrollref26_Merge.mono _ _
      | exact payrollref26_Same.mono _ _ _
      | exact wage_Merge.mono _ _
      | exact LeO.none _
      | refine LeO.ite ?_ ?_
      | refine LeO.bind ?_ (fun _ => ?_)
theorem payrolllaw26_WageMerges.mono : ∀ a0 a1 k, LeO (payrolllaw26_WageMerges.f k a0 a1) (payrolllaw26_WageMerges.f (k + 1) a0 a1) := by
  intro a0 a1 k
  have ih0 := payrolllaw26_WageMerges.mono_l k
  unfold payrolllaw26_WageMerges.f
  repeat' first
      | (with_reducible exact ih0 _ _ _ _ _)
      | (with_reducible exact paygen_ShortElements.mono _ _)
      | (with_reducible exact payrolllaw26_awake.mono _)
      | (with_reducible exact payrollref26_Merge.mono _ _)
      | (with_reducible exact payrollref26_Same.mono _ _ _)
      | (with_reducible exact wage_Merge.mono _ _)
      | (with_reducible exact LeO.refl _)
      | (with_reducible exact LeO.none _)
      | (with_reducible refine LeO.ite ?_ ?_)
      | (with_reducible refine LeO.bind ?_ (fun _ => ?_))
      | exact ih0 _ _ _ _ _
      | exact paygen_ShortElements.mono _ _
      | exact payrolllaw26_awake.mono _
      | exact payrollref26_Merge.mono _ _
      | exact payrollref26_Same.mono _ _ _
      | exact wage_Merge.mono _ _
      | exact LeO.none _
      | refine LeO.ite ?_ ?_
      | refine LeO.bind ?_ (fun _ => ?_)
set_option maxHeartbeats 8000000 in
set_option maxRecDepth 100000 in
theorem payrolllaw26_WageMerges.calls (k : Nat) (A0 : Option Addr) (c0 : Nat) (l0 : List (S44)) (A1 : Option Addr) (c1 : Nat) (l1 : List Int) (r : Bool) (w : World) (hr0 : Kd.C k44 w A0 l0.length l0) (hc0 : l0.length ≤ c0) (hr1 : Kd.C (Kd.int .i64) w A1 l1.length l1) (hc1 : l1.length ≤ c1) (h : payrolllaw26_WageMerges.f k l0 l1 = some r) :
    Calls Try.prog 5 #[.slice A0 l0.length c0, .slice A1 l1.length c1] w fun e w' => e = .returned (.bool r) ∧ Below w.heap.size w w' := by
  have hu44 := Try.underlying44
  have HR0 := Aside0.mk hr0
  have HC0 := Aside0.mk hc0
  clear hr0 hc0
  have HR1 := Aside0.mk hr1
  have HC1 := Aside0.mk hc1
  clear hr1 hc1
  have HB := Aside0.mk (Below.refl w.heap.size w)
  have H : ((paygen_ShortElements.f k l0).bind fun t288 => (if t288 = true then ((paygen_New.f l1).bind fun bt289 => (payrolllaw26_WageMerges.l0 k l0 ([] : List (S44)) 0 bt289.1 bt289.2)) else ((payrolllaw26_awake.f k).bind fun t344 => (some t344)))) = some r := h
  clear h
  replace H := Option.bind_eq_some_iff.mp H
  obtain ⟨t288, A30, H⟩ := H
  replace H : (if t288 = true then ((paygen_New.f l1).bind fun bt289 => (payrolllaw26_WageMerges.l0 k l0 ([] : List (S44)) 0 bt289.1 bt289.2)) else ((payrolllaw26_awake.f k).bind fun t344 => (some t344))) = some r := H
  have A3 := Aside0.mk A30
  clear A30
  by_cases c4 : t288 = true
  · subst c4
    have H1 : ((paygen_New.f l1).bind fun bt289 => (payrolllaw26_WageMerges.l0 k l0 ([] : List (S44)) 0 bt289.1 bt289.2)) = some r := by rw [if_pos rfl] at H; exact H
    clear H
    have H := H1
    clear H1
    replace H := Option.bind_eq_some_iff.mp H
    obtain ⟨⟨t289, t290⟩, A50, H⟩ := H
    replace H : (payrolllaw26_WageMerges.l0 k l0 ([] : List (S44)) 0 t289 t290) = some r := H
    have A5 := Aside0.mk A50
    clear A50
    have H' := Aside0.mk H
    clear H
    go_enter Try.func5, Try.ntmps5
    go_wp2_with (first | ((with_reducible refine gate_callee (f := 19) rfl ?_); refine goesL_ (some 17) rfl rfl Try.func19 (by kernel_rfl) rfl #[.slice A0 l0.length c0] rfl (by (try simp only [List.map_toArray, List.map_cons, List.map_nil]); first | done | rfl | (simp only [List.length_drop, List.length_take]; rfl)) ?_; (with_reducible refine (paygen_ShortElements.calls k _ _ l0 true _ ?side1 ?side2 A3.out).mono ?_); (case side1 => repeat (first | exact HR0.out | (with_reducible refine Kd.C_alloc ?_ _) | (with_reducible refine Kd.C_drewN ?_ _) | (with_reducible refine Kd.C_drew ?_))); (case side2 => exact HC0.out); rintro e w' ⟨rfl, ⟨nd, rfl⟩⟩; refine ⟨_, rfl, ?_⟩) | ((with_reducible refine gate_callee (f := 12) rfl ?_); refine goesL_ (some 21) rfl rfl Try.func12 (by kernel_rfl) rfl #[.slice A1 l1.length c1] rfl (by (try simp only [List.map_toArray, List.map_cons, List.map_nil]); first | done | rfl | (simp only [List.length_drop, List.length_take]; rfl)) ?_; (with_reducible refine (paygen_New.calls _ _ l1 t289 t290 w _ ?side1 ?side2 ?side3 A5.out).mono ?_); (case side1 => repeat (first | (with_reducible first | exact HB.out | apply below_alloc | apply pw_below_drewN | apply below_drew1) | exact HB.out)); (case side2 => exact HR1.out); (case side3 => exact HC1.out); rintro e w6 ⟨g291, rfl, hi, hb, hb2⟩; refine ⟨_, rfl, ?_⟩; have n0_ := Aside0.mk (hb); have n1_ := Aside0.mk (hi); clear HB; have HB := n0_; have HI291 := n1_; clear n0_ n1_; (try clear hb); (try clear hb2); (try clear hk); (try clear hi)))
    go_loopg [6, 7] k (fun kq v6 v7 w' => ∃ (x6_1 : List (S44)) (x7_1 : Int) (x292001_1 : Int), v7 = .int .i64 x7_1 ∧ Aside0 (payrolllaw26_WageMerges.l0 kq l0 x6_1 x7_1 t289 x292001_1 = some r) ∧ Aside0 (kq ≤ k) ∧ Aside0 (Kd.R k44 44 w' w.heap.size (fun _ => True) v6 x6_1) ∧ Aside0 (IsS61 w w' g291 t289 x292001_1) ∧ Aside0 (Below w.heap.size w w'))
    case atStart => exact ⟨(([] : List (S44))), (0), (t290), (by first | rfl | (simp; done) | (simp [*]; done)), H', ⟨Nat.le_refl _⟩, ⟨by first | exact Kd.R_nil _ _ _ _ _ | exact Kd.N_nil _ _ _ _ _ | exact Kd.V_nil _ _ _ _ _ | exact Kd.Q_nil _ _ _ _ _ | exact Kd.S_nil _ _ _ _ _⟩, ⟨by repeat (first | (with_reducible first | exact HI291.out | apply IsS61.alloc | apply IsS61.drewN | apply IsS61.drew | apply IsS61.set_1) | exact HI291.out)⟩, ⟨by repeat (first | (with_reducible first | exact HB.out | apply below_alloc | apply pw_below_drewN | apply below_drew1 | refine below_set ?_ (IsS61.ge HI291.out)) | exact HB.out)⟩⟩
    case round =>
      clear H'
      try clear c1
      try clear p2
      try clear c4
      try clear c5
      obtain ⟨x6_1, x7_1, x292001_1, rfl, HA, HK1, HO_6, HI291, HB⟩ := hrel
      cases gk with
      | zero => exact absurd HA.out (by simp [payrolllaw26_WageMerges.l0])
      | succ k1 =>
        have H := HA.out
        clear HA
        simp only [payrolllaw26_WageMerges.l0] at H
        by_cases c7 : x7_1 < 12
        · rw [if_pos c7] at H
          have c7b0 : decide (x7_1 < 12) = true := decide_eq_true c7
          clear c7
          replace H := Option.bind_eq_some_iff.mp H
          obtain ⟨⟨t292, t293⟩, A80, H⟩ := H
          replace H : (if t292 = true then ((paygen_Deck_Code.f t289 t293).bind fun bt294 => ((paygen_Deck_Amount.f t289 bt294.2).bind fun bt296 => ((paygen_Deck_Pick.f t289 bt296.2 (([1, (-1)] : List Int))).bind fun bt301 => (if x6_1.length < 5864062014805 then (payrolllaw26_WageMerges.l0 k1 l0 (x6_1 ++ [(⟨bt294.1, wrap64 (bt296.1 * bt301.1)⟩ : S44)]) (wrap64 (x7_1 + 1)) t289 bt301.2) else (none))))) else ((wage_Merge.f k1 l0).bind fun bt306 => ((payrollref26_Merge.f k1 l0).bind fun bt310 => ((wage_Merge.f k1 x6_1).bind fun bt314 => ((payrollref26_Merge.f k1 x6_1).bind fun bt318 => (if bt306.2 = bt310.2 then ((payrollref26_Same.f k1 bt306.1 bt310.1).bind fun t322 => (if t322 = true then (if bt314.2 = bt318.2 then ((payrollref26_Same.f k1 bt314.1 bt318.1).bind fun t323 => (if t323 = true then ((payrolllaw26_awake.f k1).bind fun t324 => (some t324)) else (none))) else (none)) else (none))) else (none))))))) = some r := H
          have A8 := Aside0.mk A80
          clear A80
          by_cases c9 : t292 = true
          · subst c9
            have H1 : ((paygen_Deck_Code.f t289 t293).bind fun bt294 => ((paygen_Deck_Amount.f t289 bt294.2).bind fun bt296 => ((paygen_Deck_Pick.f t289 bt296.2 (([1, (-1)] : List Int))).bind fun bt301 => (if x6_1.length < 5864062014805 then (payrolllaw26_WageMerges.l0 k1 l0 (x6_1 ++ [(⟨bt294.1, wrap64 (bt296.1 * bt301.1)⟩ : S44)]) (wrap64 (x7_1 + 1)) t289 bt301.2) else (none))))) = some r := by rw [if_pos rfl] at H; exact H
            clear H
            have H := H1
            clear H1
            replace H := Option.bind_eq_some_iff.mp H
            obtain ⟨⟨t294, t295⟩, A100, H⟩ := H
            replace H : ((paygen_Deck_Amount.f t289 t295).bind fun bt296 => ((paygen_Deck_Pick.f t289 bt296.2 (([1, (-1)] : List Int))).bind fun bt301 => (if x6_1.length < 5864062014805 then (payrolllaw26_WageMerges.l0 k1 l0 (x6_1 ++ [(⟨t294, wrap64 (bt296.1 * bt301.1)⟩ : S44)]) (wrap64 (x7_1 + 1)) t289 bt301.2) else (none)))) = some r := H
            have A10 := Aside0.mk A100
            clear A100
            replace H := Option.bind_eq_some_iff.mp H
            obtain ⟨⟨t296, t297⟩, A110, H⟩ := H
            replace H : ((paygen_Deck_Pick.f t289 t297 (([1, (-1)] : List Int))).bind fun bt301 => (if x6_1.length < 5864062014805 then (payrolllaw26_WageMerges.l0 k1 l0 (x6_1 ++ [(⟨t294, wrap64 (t296 * bt301.1)⟩ : S44)]) (wrap64 (x7_1 + 1)) t289 bt301.2) else (none))) = some r := H
            have A11 := Aside0.mk A110
            clear A110
            obtain ⟨y298, hy298⟩ : ∃ y_ : List Int, y_ = (([1, (-1)] : List Int)) := ⟨_, rfl⟩
            replace H : ((paygen_Deck_Pick.f t289 t297 y298).bind fun bt301 => (if x6_1.length < 5864062014805 then (payrolllaw26_WageMerges.l0 k1 l0 (x6_1 ++ [(⟨t294, wrap64 (t296 * bt301.1)⟩ : S44)]) (wrap64 (x7_1 + 1)) t289 bt301.2) else (none))) = some r := by first | (rw [hy298]; with_reducible exact H) | (have H2_ := (Option.bind_some _ _).symm.trans H; rw [hy298]; with_reducible exact H2_) | (have H2_ := (Option.bind_some _ _).symm.trans H; with_reducible exact H2_) | with_reducible exact H | (rw [hy298]; exact H) | exact H
            have Ny298 := Aside0.mk hy298
            clear hy298
            replace H := Option.bind_eq_some_iff.mp H
            obtain ⟨⟨t301, t302⟩, A120, H⟩ := H
            replace H : (if x6_1.length < 5864062014805 then (payrolllaw26_WageMerges.l0 k1 l0 (x6_1 ++ [(⟨t294, wrap64 (t296 * t301)⟩ : S44)]) (wrap64 (x7_1 + 1)) t289 t302) else (none)) = some r := H
            have A12 := Aside0.mk A120
            clear A120
            by_cases c13 : x6_1.length < 5864062014805
            · rw [if_pos c13] at H
              have LMc13 := Aside0.mk c13
              clear c13
              obtain ⟨y303, hy303⟩ : ∃ y_ : List (S44), y_ = (x6_1 ++ [(⟨t294, wrap64 (t296 * t301)⟩ : S44)]) := ⟨_, rfl⟩
              replace H : (payrolllaw26_WageMerges.l0 k1 l0 y303 (wrap64 (x7_1 + 1)) t289 t302) = some r := by first | (rw [hy303]; with_reducible exact H) | (have H2_ := (Option.bind_some _ _).symm.trans H; rw [hy303]; with_reducible exact H2_) | (have H2_ := (Option.bind_some _ _).symm.trans H; with_reducible exact H2_) | with_reducible exact H | (rw [hy303]; exact H) | exact H
              have Ny303 := Aside0.mk hy303
              clear hy303
              have H' := Aside0.mk H
              clear H
              go_wp2_with (first | (go_at_call 20; (with_reducible refine (paygen_Deck_Left.calls g291 t289 x292001_1 true t293 w _ ?side1 ?side2 A8.out).mono ?_); (case side1 => repeat (first | (with_reducible first | exact HI291.out | apply IsS61.alloc | apply IsS61.drewN | apply IsS61.drew | apply IsS61.set_1) | exact HI291.out)); (case side2 => repeat (first | (with_reducible first | exact HB.out | apply below_alloc | apply pw_below_drewN | apply below_drew1 | refine below_set ?_ (IsS61.ge HI291.out)) | exact HB.out)); rintro e w14 ⟨rfl, hi, hb, hk⟩; have n0_ := Aside0.mk (Kd.R_mono (Kd.R_keep (IsS61.apart (show IsS61 w _ g291 t289 x292001_1 from by repeat (first | (with_reducible first | exact HI291.out | apply IsS61.alloc | apply IsS61.drewN | apply IsS61.drew | apply IsS61.set_1) | exact HI291.out)) (by (with_reducible repeat (first | apply Kd.R_alloc | apply Kd.R_drewN | apply Kd.R_drew)); exact HO_6.out) (by decide)) hk (fun _ h => h.2)) (fun _ h => h.1)); have n1_ := Aside0.mk (hb); have n2_ := Aside0.mk (hi); clear HO_6; clear HB; clear HI291; have HO_6 := n0_; have HB := n1_; have HI291 := n2_; clear n0_ n1_ n2_; (try clear hb); (try clear hb2); (try clear hk); (try clear hi)) | ((with_reducible refine gate_callee (f := 21) rfl ?_); refine goesL_ (some 32) rfl rfl Try.func21 (by kernel_rfl) rfl #[.pointer (some ⟨g291, 0, none⟩)] rfl (by (try simp only [List.map_toArray, List.map_cons, List.map_nil]); first | done | rfl | (simp only [List.length_drop, List.length_take]; rfl)) ?_; (with_reducible refine (paygen_Deck_Code.calls g291 t289 t293 t294 t295 w _ ?side1 ?side2 A10.out).mono ?_); (case side1 => repeat (first | (with_reducible first | exact HI291.out | apply IsS61.alloc | apply IsS61.drewN | apply IsS61.drew | apply IsS61.set_1) | exact HI291.out)); (case side2 => repeat (first | (with_reducible first | exact HB.out | apply below_alloc | apply pw_below_drewN | apply below_drew1 | refine below_set ?_ (IsS61.ge HI291.out)) | exact HB.out)); rintro e w15 ⟨rfl, hi, hb, hk⟩; refine ⟨_, rfl, ?_⟩; have n0_ := Aside0.mk (Kd.R_mono (Kd.R_keep (IsS61.apart (show IsS61 w _ g291 t289 t293 from by repeat (first | (with_reducible first | exact HI291.out | apply IsS61.alloc | apply IsS61.drewN | apply IsS61.drew | apply IsS61.set_1) | exact HI291.out)) (by (with_reducible repeat (first | apply Kd.R_alloc | apply Kd.R_drewN | apply Kd.R_drew)); exact HO_6.out) (by decide)) hk (fun _ h => h.2)) (fun _ h => h.1)); have n1_ := Aside0.mk (hb); have n2_ := Aside0.mk (hi); clear HO_6; clear HB; clear HI291; have HO_6 := n0_; have HB := n1_; have HI291 := n2_; clear n0_ n1_ n2_; (try clear hb); (try clear hb2); (try clear hk); (try clear hi)) | ((with_reducible refine gate_callee (f := 22) rfl ?_); refine goesL_ (some 34) rfl rfl Try.func22 (by kernel_rfl) rfl #[.pointer (some ⟨g291, 0, none⟩)] rfl (by (try simp only [List.map_toArray, List.map_cons, List.map_nil]); first | done | rfl | (simp only [List.length_drop, List.length_take]; rfl)) ?_; (with_reducible refine (paygen_Deck_Amount.calls g291 t289 t295 t296 t297 w _ ?side1 ?side2 A11.out).mono ?_); (case side1 => repeat (first | (with_reducible first | exact HI291.out | apply IsS61.alloc | apply IsS61.drewN | apply IsS61.drew | apply IsS61.set_1) | exact HI291.out)); (case side2 => repeat (first | (with_reducible first | exact HB.out | apply below_alloc | apply pw_below_drewN | apply below_drew1 | refine below_set ?_ (IsS61.ge HI291.out)) | exact HB.out)); rintro e w16 ⟨rfl, hi, hb, hk⟩; refine ⟨_, rfl, ?_⟩; have n0_ := Aside0.mk (Kd.R_mono (Kd.R_keep (IsS61.apart (show IsS61 w _ g291 t289 t295 from by repeat (first | (with_reducible first | exact HI291.out | apply IsS61.alloc | apply IsS61.drewN | apply IsS61.drew | apply IsS61.set_1) | exact HI291.out)) (by (with_reducible repeat (first | apply Kd.R_alloc | apply Kd.R_drewN | apply Kd.R_drew)); exact HO_6.out) (by decide)) hk (fun _ h => h.2)) (fun _ h => h.1)); have n1_ := Aside0.mk (hb); have n2_ := Aside0.mk (hi); clear HO_6; clear HB; clear HI291; have HO_6 := n0_; have HB := n1_; have HI291 := n2_; clear n0_ n1_ n2_; (try clear hb); (try clear hb2); (try clear hk); (try clear hi)) | ((with_reducible refine gate_dst (N := 36) rfl ?_); refine Kd.R_lit (Kd.int .i64) _ 3 ?hg (N := 36) ?hd (xs := ([1, (-1)] : List Int)) (inner := [.int .i64 1, .int .i64 (-1)]) (ok := fun _ => True) (okp := fun _ => True) ?hr ?hp (fun _ hk => hk) trivial (Below.refl _ _) (Nat.le_refl _) (by simp) ?_; (case hd => rfl); (case hg => rfl); (case hr => first | (go_simp; done) | (go_simp; rfl)); (case hp => exact (Reps.one (show Kd.M (Kd.int .i64) _ _ _ 1 [.int .i64 1] from rfl) (Reps.one (show Kd.M (Kd.int .i64) _ _ _ (-1) [.int .i64 (-1)] from rfl) (Reps.none _ _)))); intro v299 w17 ho18 hb hg_ hnew_; clear hg_ hnew_; (first | rw [← Ny298.out] at ho18 | (simp only [Int.reduceToNat] at ho18; rw [← Ny298.out] at ho18)); have n0_ := Aside0.mk (Kd.R_below (by (with_reducible repeat (first | apply Kd.R_alloc | apply Kd.R_drewN | apply Kd.R_drew)); exact HO_6.out) hb); have n1_ := Aside0.mk (Kd.R_lower ho18 (below_size (by repeat (first | (with_reducible first | exact HB.out | apply below_alloc | apply pw_below_drewN | apply below_drew1 | refine below_set ?_ (IsS61.ge HI291.out)) | exact HB.out)))); have n2_ := Aside0.mk (IsS61.below (by repeat (first | (with_reducible first | exact HI291.out | apply IsS61.alloc | apply IsS61.drewN | apply IsS61.drew | apply IsS61.set_1) | exact HI291.out)) hb); have n3_ := Aside0.mk (below_step (by repeat (first | (with_reducible first | exact HB.out | apply below_alloc | apply pw_below_drewN | apply below_drew1 | refine below_set ?_ (IsS61.ge HI291.out)) | exact HB.out)) hb); clear HO_6; clear HI291; clear HB; have HO_6 := n0_; have HO300 := n1_; have HI291 := n2_; have HB := n3_; clear n0_ n1_ n2_ n3_; clear hb ho18; obtain ⟨Ao19, co19, eo19⟩ := Kd.R_slice HO300.out; subst eo19) | ((with_reducible refine gate_callee (f := 23) rfl ?_); refine goesL_ (some 37) rfl rfl Try.func23 (by kernel_rfl) rfl #[.pointer (some ⟨g291, 0, none⟩), .slice Ao19 y298.length co19] rfl (by (try simp only [List.map_toArray, List.map_cons, List.map_nil]); first | done | rfl | (simp only [List.length_drop, List.length_take]; rfl)) ?_; (with_reducible refine (paygen_Deck_Pick.calls g291 t289 t297 _ _ y298 t301 t302 w _ ?side1 ?side2 ?side3 ?side4 ?side5 A12.out).mono ?_); (case side1 => repeat (first | (with_reducible first | exact HI291.out | apply IsS61.alloc | apply IsS61.drewN | apply IsS61.drew | apply IsS61.set_1) | exact HI291.out)); (case side2 => repeat (first | (with_reducible first | exact HB.out | apply below_alloc | apply pw_below_drewN | apply below_drew1 | refine below_set ?_ (IsS61.ge HI291.out)) | exact HB.out)); (case side3 => repeat (first | exact (Kd.R_reads' HO300.out).2.2 | (with_reducible refine Kd.C_alloc ?_ _) | (with_reducible refine Kd.C_drewN ?_ _) | (with_reducible refine Kd.C_drew ?_))); (case side4 => exact (Kd.R_reads' HO300.out).2.1); (case side5 => exact far_slice (IsS61.own_ne HI291.out HO300.out (by decide))); rintro e w20 ⟨rfl, hi, hb, hk⟩; refine ⟨_, rfl, ?_⟩; have n0_ := Aside0.mk (Kd.R_mono (Kd.R_keep (IsS61.apart (show IsS61 w _ g291 t289 t297 from by repeat (first | (with_reducible first | exact HI291.out | apply IsS61.alloc | apply IsS61.drewN | apply IsS61.drew | apply IsS61.set_1) | exact HI291.out)) (by (with_reducible repeat (first | apply Kd.R_alloc | apply Kd.R_drewN | apply Kd.R_drew)); exact HO_6.out) (by decide)) hk (fun _ h => h.2)) (fun _ h => h.1)); have n1_ := Aside0.mk (Kd.R_mono (Kd.R_keep (IsS61.apart (show IsS61 w _ g291 t289 t297 from by repeat (first | (with_reducible first | exact HI291.out | apply IsS61.alloc | apply IsS61.drewN | apply IsS61.drew | apply IsS61.set_1) | exact HI291.out)) (by (with_reducible repeat (first | apply Kd.R_alloc | apply Kd.R_drewN | apply Kd.R_drew)); exact HO300.out) (by decide)) hk (fun _ h => h.2)) (fun _ h => h.1)); have n2_ := Aside0.mk (hb); have n3_ := Aside0.mk (hi); clear HO_6; clear HO300; clear HB; clear HI291; have HO_6 := n0_; have HO300 := n1_; have HB := n2_; have HI291 := n3_; clear n0_ n1_ n2_ n3_; (try clear hb); (try clear hb2); (try clear hk); (try clear hi)) | ((with_reducible refine gate_builtin (b := .append) (xs := #[.tmp 30, .tmp 40]) rfl ?_); at_builtin; refine Kd.R_append k44 (w0 := w) w.heap.size rfl (.tmp 30) (.tmp 40) 38 44 (.agg #[(.string ⟨#[]⟩), (.int .i64 0)]) 24 rfl Try.underlying38 info44 rfl (by decide) (by omega) u6 x6_1 (⟨t294, wrap64 (t296 * t301)⟩ : S44) [.string t294, .int .i64 (wrap64 (t296 * t301))] (fun _ => True) (fun _ => False) rfl rfl ?aP (fun _ hk => hk.elim) ?aF ?aO ?aB ?aS ?aL ?_; (case aP => exact k44_mkM _ _ _ (⟨t294, wrap64 (t296 * t301)⟩ : S44)); (case aB => exact (by repeat (first | (with_reducible first | exact HB.out | apply below_alloc | apply pw_below_drewN | apply below_drew1 | refine below_set ?_ (IsS61.ge HI291.out)) | exact HB.out))); (case aF => exact (fun _ _ => trivial)); (case aO => exact (by (with_reducible repeat (first | apply Kd.R_alloc | apply Kd.R_drewN | apply Kd.R_drew)); exact HO_6.out)); (case aS => exact (below_size (by repeat (first | (with_reducible first | exact HB.out | apply below_alloc | apply pw_below_drewN | apply below_drew1 | refine below_set ?_ (IsS61.ge HI291.out)) | exact HB.out)))); (case aL => have := LMc13.out; omega); intro v304 w21 ho hb hg hat; rw [← Ny303.out] at ho; have n0_ := Aside0.mk (IsS61.grown (by repeat (first | (with_reducible first | exact HI291.out | apply IsS61.alloc | apply IsS61.drewN | apply IsS61.drew | apply IsS61.set_1) | exact HI291.out)) hg (IsS61.own_ne HI291.out HO_6.out (by decide))); have n1_ := Aside0.mk (Kd.R_over' (by (with_reducible repeat (first | apply Kd.R_alloc | apply Kd.R_drewN | apply Kd.R_drew)); exact HO300.out) (Kd.R_typed (by (with_reducible repeat (first | apply Kd.R_alloc | apply Kd.R_drewN | apply Kd.R_drew)); exact HO_6.out)) (by decide) hg); have n2_ := Aside0.mk (hb); have n3_ := Aside0.mk (ho); clear HI291; clear HO300; clear HB; clear HO_6; have HI291 := n0_; have HO300 := n1_; have HB := n2_; have HO305 := n3_; clear n0_ n1_ n2_ n3_; clear ho hb hg hat))
              go_roundg k1
              case measure => have := HK1.out; omega
              case rel => exact ⟨(y303), (wrap64 (x7_1 + 1)), (t302), (by first | rfl | (simp; done) | (simp [*]; done)), H', ⟨by have := HK1.out; omega⟩, ⟨by (with_reducible repeat (first | apply Kd.R_alloc | apply Kd.R_drewN | apply Kd.R_drew)); exact HO305.out⟩, ⟨by repeat (first | (with_reducible first | exact HI291.out | apply IsS61.alloc | apply IsS61.drewN | apply IsS61.drew | apply IsS61.set_1) | exact HI291.out)⟩, ⟨by repeat (first | (with_reducible first | exact HB.out | apply below_alloc | apply pw_below_drewN | apply below_drew1 | refine below_set ?_ (IsS61.ge HI291.out)) | exact HB.out)⟩⟩
            · rw [if_neg c13] at H
              exact absurd H (by simp)
          · replace c9 := Bool.eq_false_iff.mpr c9
            subst c9
            have H1 : ((wage_Merge.f k1 l0).bind fun bt306 => ((payrollref26_Merge.f k1 l0).bind fun bt310 => ((wage_Merge.f k1 x6_1).bind fun bt314 => ((payrollref26_Merge.f k1 x6_1).bind fun bt318 => (if bt306.2 = bt310.2 then ((payrollref26_Same.f k1 bt306.1 bt310.1).bind fun t322 => (if t322 = true then (if bt314.2 = bt318.2 then ((payrollref26_Same.f k1 bt314.1 bt318.1).bind fun t323 => (if t323 = true then ((payrolllaw26_awake.f k1).bind fun t324 => (some t324)) else (none))) else (none)) else (none))) else (none)))))) = some r := by rw [if_neg (show ¬ (false = true) by decide)] at H; exact H
            clear H
            have H := H1
            clear H1
            replace H := Option.bind_eq_some_iff.mp H
            obtain ⟨⟨t306, t307⟩, A220, H⟩ := H
            replace H : ((payrollref26_Merge.f k1 l0).bind fun bt310 => ((wage_Merge.f k1 x6_1).bind fun bt314 => ((payrollref26_Merge.f k1 x6_1).bind fun bt318 => (if t307 = bt310.2 then ((payrollref26_Same.f k1 t306 bt310.1).bind fun t322 => (if t322 = true then (if bt314.2 = bt318.2 then ((payrollref26_Same.f k1 bt314.1 bt318.1).bind fun t323 => (if t323 = true then ((payrolllaw26_awake.f k1).bind fun t324 => (some t324)) else (none))) else (none)) else (none))) else (none))))) = some r := H
            have A22 := Aside0.mk A220
            clear A220
            replace H := Option.bind_eq_some_iff.mp H
            obtain ⟨⟨t310, t311⟩, A230, H⟩ := H
            replace H : ((wage_Merge.f k1 x6_1).bind fun bt314 => ((payrollref26_Merge.f k1 x6_1).bind fun bt318 => (if t307 = t311 then ((payrollref26_Same.f k1 t306 t310).bind fun t322 => (if t322 = true then (if bt314.2 = bt318.2 then ((payrollref26_Same.f k1 bt314.1 bt318.1).bind fun t323 => (if t323 = true then ((payrolllaw26_awake.f k1).bind fun t324 => (some t324)) else (none))) else (none)) else (none))) else (none)))) = some r := H
            have A23 := Aside0.mk A230
            clear A230
            replace H := Option.bind_eq_some_iff.mp H
            obtain ⟨⟨t314, t315⟩, A240, H⟩ := H
            replace H : ((payrollref26_Merge.f k1 x6_1).bind fun bt318 => (if t307 = t311 then ((payrollref26_Same.f k1 t306 t310).bind fun t322 => (if t322 = true then (if t315 = bt318.2 then ((payrollref26_Same.f k1 t314 bt318.1).bind fun t323 => (if t323 = true then ((payrolllaw26_awake.f k1).bind fun t324 => (some t324)) else (none))) else (none)) else (none))) else (none))) = some r := H
            have A24 := Aside0.mk A240
            clear A240
            replace H := Option.bind_eq_some_iff.mp H
            obtain ⟨⟨t318, t319⟩, A250, H⟩ := H
            replace H : (if t307 = t311 then ((payrollref26_Same.f k1 t306 t310).bind fun t322 => (if t322 = true then (if t315 = t319 then ((payrollref26_Same.f k1 t314 t318).bind fun t323 => (if t323 = true then ((payrolllaw26_awake.f k1).bind fun t324 => (some t324)) else (none))) else (none)) else (none))) else (none)) = some r := H
            have A25 := Aside0.mk A250
            clear A250
            by_cases c26 : t307 = t311
            · rw [if_pos c26] at H
              have c26b0 : (t307 == t311) = true := beq_iff_eq.mpr c26
              have c26b1 : (t307 != t311) = false := bne_eq_false_iff_eq.mpr c26
              clear c26
              replace H := Option.bind_eq_some_iff.mp H
              obtain ⟨t322, A270, H⟩ := H
              replace H : (if t322 = true then (if t315 = t319 then ((payrollref26_Same.f k1 t314 t318).bind fun t323 => (if t323 = true then ((payrolllaw26_awake.f k1).bind fun t324 => (some t324)) else (none))) else (none)) else (none)) = some r := H
              have A27 := Aside0.mk A270
              clear A270
              by_cases c28 : t322 = true
              · subst c28
                have H1 : (if t315 = t319 then ((payrollref26_Same.f k1 t314 t318).bind fun t323 => (if t323 = true then ((payrolllaw26_awake.f k1).bind fun t324 => (some t324)) else (none))) else (none)) = some r := by rw [if_pos rfl] at H; exact H
                clear H
                have H := H1
                clear H1
                by_cases c29 : t315 = t319
                · rw [if_pos c29] at H
                  have c29b0 : (t315 == t319) = true := beq_iff_eq.mpr c29
                  have c29b1 : (t315 != t319) = false := bne_eq_false_iff_eq.mpr c29
                  clear c29
                  replace H := Option.bind_eq_some_iff.mp H
                  obtain ⟨t323, A300, H⟩ := H
                  replace H : (if t323 = true then ((payrolllaw26_awake.f k1).bind fun t324 => (some t324)) else (none)) = some r := H
                  have A30 := Aside0.mk A300
                  clear A300
                  by_cases c31 : t323 = true
                  · subst c31
                    have H1 : ((payrolllaw26_awake.f k1).bind fun t324 => (some t324)) = some r := by rw [if_pos rfl] at H; exact H
                    clear H
                    have H := H1
                    clear H1
                    replace H := Option.bind_eq_some_iff.mp H
                    obtain ⟨t324, A320, H⟩ := H
                    replace H : (some t324) = some r := H
                    have A32 := Aside0.mk A320
                    clear A320
                    obtain rfl := Option.some.inj H
                    go_wp2_with (first | (go_at_call 20; (with_reducible refine (paygen_Deck_Left.calls g291 t289 x292001_1 false t293 w _ ?side1 ?side2 A8.out).mono ?_); (case side1 => repeat (first | (with_reducible first | exact HI291.out | apply IsS61.alloc | apply IsS61.drewN | apply IsS61.drew | apply IsS61.set_1) | exact HI291.out)); (case side2 => repeat (first | (with_reducible first | exact HB.out | apply below_alloc | apply pw_below_drewN | apply below_drew1 | refine below_set ?_ (IsS61.ge HI291.out)) | exact HB.out)); rintro e w33 ⟨rfl, hi, hb, hk⟩; have n0_ := Aside0.mk (Kd.R_mono (Kd.R_keep (IsS61.apart (show IsS61 w _ g291 t289 x292001_1 from by repeat (first | (with_reducible first | exact HI291.out | apply IsS61.alloc | apply IsS61.drewN | apply IsS61.drew | apply IsS61.set_1) | exact HI291.out)) (by (with_reducible repeat (first | apply Kd.R_alloc | apply Kd.R_drewN | apply Kd.R_drew)); exact HO_6.out) (by decide)) hk (fun _ h => h.2)) (fun _ h => h.1)); have n1_ := Aside0.mk (hb); have n2_ := Aside0.mk (hi); clear HO_6; clear HB; clear HI291; have HO_6 := n0_; have HB := n1_; have HI291 := n2_; clear n0_ n1_ n2_; (try clear hb); (try clear hb2); (try clear hk); (try clear hi)) | ((with_reducible refine gate_callee (f := 24) rfl ?_); refine goesL_ (some 44) rfl rfl Try.func24 (by kernel_rfl) rfl #[.slice A0 l0.length c0] rfl (by (try simp only [List.map_toArray, List.map_cons, List.map_nil]); first | done | rfl | (simp only [List.length_drop, List.length_take]; rfl)) ?_; (with_reducible refine (wage_Merge.calls k1 _ _ l0 t306 t307 _ ?side1 ?side2 A22.out).mono ?_); (case side1 => repeat (first | exact (Kd.C_below HR0.out HB.out) | (with_reducible refine Kd.C_alloc ?_ _) | (with_reducible refine Kd.C_drewN ?_ _) | (with_reducible refine Kd.C_drew ?_))); (case side2 => exact HC0.out); rintro e w34 ⟨v308, rfl, ho0, hb⟩; refine ⟨_, rfl, ?_⟩; have n0_ := Aside0.mk (Kd.R_elder' (by (with_reducible repeat (first | apply Kd.R_alloc | apply Kd.R_drewN | apply Kd.R_drew)); exact HO_6.out) (Kd.R_base ho0) hb); have n1_ := Aside0.mk (Kd.R_lower (Kd.R_new' ho0 (Kd.R_lt (by (with_reducible repeat (first | apply Kd.R_alloc | apply Kd.R_drewN | apply Kd.R_drew)); exact HO_6.out))) (below_size (by repeat (first | (with_reducible first | exact HB.out | apply below_alloc | apply pw_below_drewN | apply below_drew1 | refine below_set ?_ (IsS61.ge HI291.out)) | exact HB.out)))); have n2_ := Aside0.mk (IsS61.below (by repeat (first | (with_reducible first | exact HI291.out | apply IsS61.alloc | apply IsS61.drewN | apply IsS61.drew | apply IsS61.set_1) | exact HI291.out)) hb); have n3_ := Aside0.mk (below_step (by repeat (first | (with_reducible first | exact HB.out | apply below_alloc | apply pw_below_drewN | apply below_drew1 | refine below_set ?_ (IsS61.ge HI291.out)) | exact HB.out)) hb); clear HO_6; clear HI291; clear HB; have HO_6 := n0_; have HO309 := n1_; have HI291 := n2_; have HB := n3_; clear n0_ n1_ n2_ n3_; (try clear hb); (try clear hb2); (try clear hk); (try clear hi); (try clear ho0)) | ((with_reducible refine gate_callee (f := 25) rfl ?_); refine goesL_ (some 49) rfl rfl Try.func25 (by kernel_rfl) rfl #[.slice A0 l0.length c0] rfl (by (try simp only [List.map_toArray, List.map_cons, List.map_nil]); first | done | rfl | (simp only [List.length_drop, List.length_take]; rfl)) ?_; (with_reducible refine (payrollref26_Merge.calls k1 _ _ l0 t310 t311 _ ?side1 ?side2 A23.out).mono ?_); (case side1 => repeat (first | exact (Kd.C_below HR0.out HB.out) | (with_reducible refine Kd.C_alloc ?_ _) | (with_reducible refine Kd.C_drewN ?_ _) | (with_reducible refine Kd.C_drew ?_))); (case side2 => exact HC0.out); rintro e w35 ⟨v312, rfl, ho0, hb⟩; refine ⟨_, rfl, ?_⟩; have n0_ := Aside0.mk (Kd.R_elder' (by (with_reducible repeat (first | apply Kd.R_alloc | apply Kd.R_drewN | apply Kd.R_drew)); exact HO_6.out) (Kd.R_base ho0) hb); have n1_ := Aside0.mk (Kd.R_elder' (by (with_reducible repeat (first | apply Kd.R_alloc | apply Kd.R_drewN | apply Kd.R_drew)); exact HO309.out) (Kd.R_base ho0) hb); have n2_ := Aside0.mk (Kd.R_lower (Kd.R_new' (Kd.R_new' ho0 (Kd.R_lt (by (with_reducible repeat (first | apply Kd.R_alloc | apply Kd.R_drewN | apply Kd.R_drew)); exact HO_6.out))) (Kd.R_lt (by (with_reducible repeat (first | apply Kd.R_alloc | apply Kd.R_drewN | apply Kd.R_drew)); exact HO309.out))) (below_size (by repeat (first | (with_reducible first | exact HB.out | apply below_alloc | apply pw_below_drewN | apply below_drew1 | refine below_set ?_ (IsS61.ge HI291.out)) | exact HB.out)))); have n3_ := Aside0.mk (IsS61.below (by repeat (first | (with_reducible first | exact HI291.out | apply IsS61.alloc | apply IsS61.drewN | apply IsS61.drew | apply IsS61.set_1) | exact HI291.out)) hb); have n4_ := Aside0.mk (below_step (by repeat (first | (with_reducible first | exact HB.out | apply below_alloc | apply pw_below_drewN | apply below_drew1 | refine below_set ?_ (IsS61.ge HI291.out)) | exact HB.out)) hb); clear HO_6; clear HO309; clear HI291; clear HB; have HO_6 := n0_; have HO309 := n1_; have HO313 := n2_; have HI291 := n3_; have HB := n4_; clear n0_ n1_ n2_ n3_ n4_; (try clear hb); (try clear hb2); (try clear hk); (try clear hi); (try clear ho0); obtain ⟨Ao36, co36, eo36⟩ := Kd.R_slice HO_6.out; subst eo36) | ((with_reducible refine gate_callee (f := 24) rfl ?_); refine goesL_ (some 54) rfl rfl Try.func24 (by kernel_rfl) rfl #[.slice Ao36 x6_1.length co36] rfl (by (try simp only [List.map_toArray, List.map_cons, List.map_nil]); first | done | rfl | (simp only [List.length_drop, List.length_take]; rfl)) ?_; (with_reducible refine (wage_Merge.calls k1 _ _ x6_1 t314 t315 _ ?side1 ?side2 A24.out).mono ?_); (case side1 => repeat (first | exact (Kd.R_reads' HO_6.out).2.2 | (with_reducible refine Kd.C_alloc ?_ _) | (with_reducible refine Kd.C_drewN ?_ _) | (with_reducible refine Kd.C_drew ?_))); (case side2 => exact (Kd.R_reads' HO_6.out).2.1); rintro e w37 ⟨v316, rfl, ho0, hb⟩; refine ⟨_, rfl, ?_⟩; have n0_ := Aside0.mk (Kd.R_elder' (by (with_reducible repeat (first | apply Kd.R_alloc | apply Kd.R_drewN | apply Kd.R_drew)); exact HO_6.out) (Kd.R_base ho0) hb); have n1_ := Aside0.mk (Kd.R_elder' (by (with_reducible repeat (first | apply Kd.R_alloc | apply Kd.R_drewN | apply Kd.R_drew)); exact HO309.out) (Kd.R_base ho0) hb); have n2_ := Aside0.mk (Kd.R_elder' (by (with_reducible repeat (first | apply Kd.R_alloc | apply Kd.R_drewN | apply Kd.R_drew)); exact HO313.out) (Kd.R_base ho0) hb); have n3_ := Aside0.mk (Kd.R_lower (Kd.R_new' (Kd.R_new' (Kd.R_new' ho0 (Kd.R_lt (by (with_reducible repeat (first | apply Kd.R_alloc | apply Kd.R_drewN | apply Kd.R_drew)); exact HO_6.out))) (Kd.R_lt (by (with_reducible repeat (first | apply Kd.R_alloc | apply Kd.R_drewN | apply Kd.R_drew)); exact HO309.out))) (Kd.R_lt (by (with_reducible repeat (first | apply Kd.R_alloc | apply Kd.R_drewN | apply Kd.R_drew)); exact HO313.out))) (below_size (by repeat (first | (with_reducible first | exact HB.out | apply below_alloc | apply pw_below_drewN | apply below_drew1 | refine below_set ?_ (IsS61.ge HI291.out)) | exact HB.out)))); have n4_ := Aside0.mk (IsS61.below (by repeat (first | (with_reducible first | exact HI291.out | apply IsS61.alloc | apply IsS61.drewN | apply IsS61.drew | apply IsS61.set_1) | exact HI291.out)) hb); have n5_ := Aside0.mk (below_step (by repeat (first | (with_reducible first | exact HB.out | apply below_alloc | apply pw_below_drewN | apply below_drew1 | refine below_set ?_ (IsS61.ge HI291.out)) | exact HB.out)) hb); clear HO_6; clear HO309; clear HO313; clear HI291; clear HB; have HO_6 := n0_; have HO309 := n1_; have HO313 := n2_; have HO317 := n3_; have HI291 := n4_; have HB := n5_; clear n0_ n1_ n2_ n3_ n4_ n5_; (try clear hb); (try clear hb2); (try clear hk); (try clear hi); (try clear ho0)) | ((with_reducible refine gate_callee (f := 25) rfl ?_); refine goesL_ (some 59) rfl rfl Try.func25 (by kernel_rfl) rfl #[.slice Ao36 x6_1.length co36] rfl (by (try simp only [List.map_toArray, List.map_cons, List.map_nil]); first | done | rfl | (simp only [List.length_drop, List.length_take]; rfl)) ?_; (with_reducible refine (payrollref26_Merge.calls k1 _ _ x6_1 t318 t319 _ ?side1 ?side2 A25.out).mono ?_); (case side1 => repeat (first | exact (Kd.R_reads' HO_6.out).2.2 | (with_reducible refine Kd.C_alloc ?_ _) | (with_reducible refine Kd.C_drewN ?_ _) | (with_reducible refine Kd.C_drew ?_))); (case side2 => exact (Kd.R_reads' HO_6.out).2.1); rintro e w38 ⟨v320, rfl, ho0, hb⟩; refine ⟨_, rfl, ?_⟩; have n0_ := Aside0.mk (Kd.R_elder' (by (with_reducible repeat (first | apply Kd.R_alloc | apply Kd.R_drewN | apply Kd.R_drew)); exact HO_6.out) (Kd.R_base ho0) hb); have n1_ := Aside0.mk (Kd.R_elder' (by (with_reducible repeat (first | apply Kd.R_alloc | apply Kd.R_drewN | apply Kd.R_drew)); exact HO309.out) (Kd.R_base ho0) hb); have n2_ := Aside0.mk (Kd.R_elder' (by (with_reducible repeat (first | apply Kd.R_alloc | apply Kd.R_drewN | apply Kd.R_drew)); exact HO313.out) (Kd.R_base ho0) hb); have n3_ := Aside0.mk (Kd.R_elder' (by (with_reducible repeat (first | apply Kd.R_alloc | apply Kd.R_drewN | apply Kd.R_drew)); exact HO317.out) (Kd.R_base ho0) hb); have n4_ := Aside0.mk (Kd.R_lower (Kd.R_new' (Kd.R_new' (Kd.R_new' (Kd.R_new' ho0 (Kd.R_lt (by (with_reducible repeat (first | apply Kd.R_alloc | apply Kd.R_drewN | apply Kd.R_drew)); exact HO_6.out))) (Kd.R_lt (by (with_reducible repeat (first | apply Kd.R_alloc | apply Kd.R_drewN | apply Kd.R_drew)); exact HO309.out))) (Kd.R_lt (by (with_reducible repeat (first | apply Kd.R_alloc | apply Kd.R_drewN | apply Kd.R_drew)); exact HO313.out))) (Kd.R_lt (by (with_reducible repeat (first | apply Kd.R_alloc | apply Kd.R_drewN | apply Kd.R_drew)); exact HO317.out))) (below_size (by repeat (first | (with_reducible first | exact HB.out | apply below_alloc | apply pw_below_drewN | apply below_drew1 | refine below_set ?_ (IsS61.ge HI291.out)) | exact HB.out)))); have n5_ := Aside0.mk (IsS61.below (by repeat (first | (with_reducible first | exact HI291.out | apply IsS61.alloc | apply IsS61.drewN | apply IsS61.drew | apply IsS61.set_1) | exact HI291.out)) hb); have n6_ := Aside0.mk (below_step (by repeat (first | (with_reducible first | exact HB.out | apply below_alloc | apply pw_below_drewN | apply below_drew1 | refine below_set ?_ (IsS61.ge HI291.out)) | exact HB.out)) hb); clear HO_6; clear HO309; clear HO313; clear HO317; clear HI291; clear HB; have HO_6 := n0_; have HO309 := n1_; have HO313 := n2_; have HO317 := n3_; have HO321 := n4_; have HI291 := n5_; have HB := n6_; clear n0_ n1_ n2_ n3_ n4_ n5_ n6_; (try clear hb); (try clear hb2); (try clear hk); (try clear hi); (try clear ho0); obtain ⟨Ao39, co39, eo39⟩ := Kd.R_slice HO309.out; subst eo39; obtain ⟨Ao40, co40, eo40⟩ := Kd.R_slice HO313.out; subst eo40) | (go_at_call 26; (with_reducible refine (payrollref26_Same.calls k1 _ _ t306 _ _ t310 true _ ?side1 ?side2 ?side3 ?side4 A27.out).mono ?_); (case side1 => repeat (first | exact (Kd.R_reads' HO309.out).2.2 | (with_reducible refine Kd.C_alloc ?_ _) | (with_reducible refine Kd.C_drewN ?_ _) | (with_reducible refine Kd.C_drew ?_))); (case side2 => exact (Kd.R_reads' HO309.out).2.1); (case side3 => repeat (first | exact (Kd.R_reads' HO313.out).2.2 | (with_reducible refine Kd.C_alloc ?_ _) | (with_reducible refine Kd.C_drewN ?_ _) | (with_reducible refine Kd.C_drew ?_))); (case side4 => exact (Kd.R_reads' HO313.out).2.1); rintro e w' ⟨rfl, ⟨nd, rfl⟩⟩; obtain ⟨Ao41, co41, eo41⟩ := Kd.R_slice HO317.out; subst eo41; obtain ⟨Ao42, co42, eo42⟩ := Kd.R_slice HO321.out; subst eo42) | (go_at_call 26; (with_reducible refine (payrollref26_Same.calls k1 _ _ t314 _ _ t318 true _ ?side1 ?side2 ?side3 ?side4 A30.out).mono ?_); (case side1 => repeat (first | exact (Kd.R_reads' HO317.out).2.2 | (with_reducible refine Kd.C_alloc ?_ _) | (with_reducible refine Kd.C_drewN ?_ _) | (with_reducible refine Kd.C_drew ?_))); (case side2 => exact (Kd.R_reads' HO317.out).2.1); (case side3 => repeat (first | exact (Kd.R_reads' HO321.out).2.2 | (with_reducible refine Kd.C_alloc ?_ _) | (with_reducible refine Kd.C_drewN ?_ _) | (with_reducible refine Kd.C_drew ?_))); (case side4 => exact (Kd.R_reads' HO321.out).2.1); rintro e w' ⟨rfl, ⟨nd, rfl⟩⟩) | (go_at_call 11; (with_reducible refine (payrolllaw26_awake.calls k1  t324 _ A32.out).mono ?_); rintro e w43 ⟨rfl, hb⟩; have n0_ := Aside0.mk (Kd.R_below (by (with_reducible repeat (first | apply Kd.R_alloc | apply Kd.R_drewN | apply Kd.R_drew)); exact HO_6.out) hb); have n1_ := Aside0.mk (Kd.R_below (by (with_reducible repeat (first | apply Kd.R_alloc | apply Kd.R_drewN | apply Kd.R_drew)); exact HO309.out) hb); have n2_ := Aside0.mk (Kd.R_below (by (with_reducible repeat (first | apply Kd.R_alloc | apply Kd.R_drewN | apply Kd.R_drew)); exact HO313.out) hb); have n3_ := Aside0.mk (Kd.R_below (by (with_reducible repeat (first | apply Kd.R_alloc | apply Kd.R_drewN | apply Kd.R_drew)); exact HO317.out) hb); have n4_ := Aside0.mk (Kd.R_below (by (with_reducible repeat (first | apply Kd.R_alloc | apply Kd.R_drewN | apply Kd.R_drew)); exact HO321.out) hb); have n5_ := Aside0.mk (IsS61.below (by repeat (first | (with_reducible first | exact HI291.out | apply IsS61.alloc | apply IsS61.drewN | apply IsS61.drew | apply IsS61.set_1) | exact HI291.out)) hb); have n6_ := Aside0.mk (below_step (by repeat (first | (with_reducible first | exact HB.out | apply below_alloc | apply pw_below_drewN | apply below_drew1 | refine below_set ?_ (IsS61.ge HI291.out)) | exact HB.out)) hb); clear HO_6; clear HO309; clear HO313; clear HO317; clear HO321; clear HI291; clear HB; have HO_6 := n0_; have HO309 := n1_; have HO313 := n2_; have HO317 := n3_; have HO321 := n4_; have HI291 := n5_; have HB := n6_; clear n0_ n1_ n2_ n3_ n4_ n5_ n6_; (try clear hb); (try clear hb2); (try clear hk); (try clear hi)))
                    go_ret
                    exact ⟨by first | rfl | (simp [errW_none, errW_some] <;> rfl) | (simp [*, errW_none, errW_some] <;> rfl), by repeat (first | (with_reducible first | exact HB.out | apply below_alloc | apply pw_below_drewN | apply below_drew1 | refine below_set ?_ (IsS61.ge HI291.out)) | exact HB.out)⟩
                  · replace c31 := Bool.eq_false_iff.mpr c31
                    subst c31
                    have H1 : (none) = some r := by rw [if_neg (show ¬ (false = true) by decide)] at H; exact H
                    clear H
                    have H := H1
                    clear H1
                    exact absurd H (by simp)
                · rw [if_neg c29] at H
                  exact absurd H (by simp)
              · replace c28 := Bool.eq_false_iff.mpr c28
                subst c28
                have H1 : (none) = some r := by rw [if_neg (show ¬ (false = true) by decide)] at H; exact H
                clear H
                have H := H1
                clear H1
                exact absurd H (by simp)
            · rw [if_neg c26] at H
              exact absurd H (by simp)
        · rw [if_neg c7] at H
          have c7b0 : decide (x7_1 < 12) = false := decide_eq_false c7
          clear c7
          replace H := Option.bind_eq_some_iff.mp H
          obtain ⟨⟨t325, t326⟩, A440, H⟩ := H
          replace H : ((payrollref26_Merge.f k1 l0).bind fun bt329 => ((wage_Merge.f k1 x6_1).bind fun bt333 => ((payrollref26_Merge.f k1 x6_1).bind fun bt337 => (if t326 = bt329.2 then ((payrollref26_Same.f k1 t325 bt329.1).bind fun t341 => (if t341 = true then (if bt333.2 = bt337.2 then ((payrollref26_Same.f k1 bt333.1 bt337.1).bind fun t342 => (if t342 = true then ((payrolllaw26_awake.f k1).bind fun t343 => (some t343)) else (none))) else (none)) else (none))) else (none))))) = some r := H
          have A44 := Aside0.mk A440
          clear A440
          replace H := Option.bind_eq_some_iff.mp H
          obtain ⟨⟨t329, t330⟩, A450, H⟩ := H
          replace H : ((wage_Merge.f k1 x6_1).bind fun bt333 => ((payrollref26_Merge.f k1 x6_1).bind fun bt337 => (if t326 = t330 then ((payrollref26_Same.f k1 t325 t329).bind fun t341 => (if t341 = true then (if bt333.2 = bt337.2 then ((payrollref26_Same.f k1 bt333.1 bt337.1).bind fun t342 => (if t342 = true then ((payrolllaw26_awake.f k1).bind fun t343 => (some t343)) else (none))) else (none)) else (none))) else (none)))) = some r := H
          have A45 := Aside0.mk A450
          clear A450
          replace H := Option.bind_eq_some_iff.mp H
          obtain ⟨⟨t333, t334⟩, A460, H⟩ := H
          replace H : ((payrollref26_Merge.f k1 x6_1).bind fun bt337 => (if t326 = t330 then ((payrollref26_Same.f k1 t325 t329).bind fun t341 => (if t341 = true then (if t334 = bt337.2 then ((payrollref26_Same.f k1 t333 bt337.1).bind fun t342 => (if t342 = true then ((payrolllaw26_awake.f k1).bind fun t343 => (some t343)) else (none))) else (none)) else (none))) else (none))) = some r := H
          have A46 := Aside0.mk A460
          clear A460
          replace H := Option.bind_eq_some_iff.mp H
          obtain ⟨⟨t337, t338⟩, A470, H⟩ := H
          replace H : (if t326 = t330 then ((payrollref26_Same.f k1 t325 t329).bind fun t341 => (if t341 = true then (if t334 = t338 then ((payrollref26_Same.f k1 t333 t337).bind fun t342 => (if t342 = true then ((payrolllaw26_awake.f k1).bind fun t343 => (some t343)) else (none))) else (none)) else (none))) else (none)) = some r := H
          have A47 := Aside0.mk A470
          clear A470
          by_cases c48 : t326 = t330
          · rw [if_pos c48] at H
            have c48b0 : (t326 == t330) = true := beq_iff_eq.mpr c48
            have c48b1 : (t326 != t330) = false := bne_eq_false_iff_eq.mpr c48
            clear c48
            replace H := Option.bind_eq_some_iff.mp H
            obtain ⟨t341, A490, H⟩ := H
            replace H : (if t341 = true then (if t334 = t338 then ((payrollref26_Same.f k1 t333 t337).bind fun t342 => (if t342 = true then ((payrolllaw26_awake.f k1).bind fun t343 => (some t343)) else (none))) else (none)) else (none)) = some r := H
            have A49 := Aside0.mk A490
            clear A490
            by_cases c50 : t341 = true
            · subst c50
              have H1 : (if t334 = t338 then ((payrollref26_Same.f k1 t333 t337).bind fun t342 => (if t342 = true then ((payrolllaw26_awake.f k1).bind fun t343 => (some t343)) else (none))) else (none)) = some r := by rw [if_pos rfl] at H; exact H
              clear H
              have H := H1
              clear H1
              by_cases c51 : t334 = t338
              · rw [if_pos c51] at H
                have c51b0 : (t334 == t338) = true := beq_iff_eq.mpr c51
                have c51b1 : (t334 != t338) = false := bne_eq_false_iff_eq.mpr c51
                clear c51
                replace H := Option.bind_eq_some_iff.mp H
                obtain ⟨t342, A520, H⟩ := H
                replace H : (if t342 = true then ((payrolllaw26_awake.f k1).bind fun t343 => (some t343)) else (none)) = some r := H
                have A52 := Aside0.mk A520
                clear A520
                by_cases c53 : t342 = true
                · subst c53
                  have H1 : ((payrolllaw26_awake.f k1).bind fun t343 => (some t343)) = some r := by rw [if_pos rfl] at H; exact H
                  clear H
                  have H := H1
                  clear H1
                  replace H := Option.bind_eq_some_iff.mp H
                  obtain ⟨t343, A540, H⟩ := H
                  replace H : (some t343) = some r := H
                  have A54 := Aside0.mk A540
                  clear A540
                  obtain rfl := Option.some.inj H
                  go_wp2_with (first | ((with_reducible refine gate_callee (f := 24) rfl ?_); refine goesL_ (some 44) rfl rfl Try.func24 (by kernel_rfl) rfl #[.slice A0 l0.length c0] rfl (by (try simp only [List.map_toArray, List.map_cons, List.map_nil]); first | done | rfl | (simp only [List.length_drop, List.length_take]; rfl)) ?_; (with_reducible refine (wage_Merge.calls k1 _ _ l0 t325 t326 _ ?side1 ?side2 A44.out).mono ?_); (case side1 => repeat (first | exact (Kd.C_below HR0.out HB.out) | (with_reducible refine Kd.C_alloc ?_ _) | (with_reducible refine Kd.C_drewN ?_ _) | (with_reducible refine Kd.C_drew ?_))); (case side2 => exact HC0.out); rintro e w55 ⟨v327, rfl, ho0, hb⟩; refine ⟨_, rfl, ?_⟩; have n0_ := Aside0.mk (Kd.R_elder' (by (with_reducible repeat (first | apply Kd.R_alloc | apply Kd.R_drewN | apply Kd.R_drew)); exact HO_6.out) (Kd.R_base ho0) hb); have n1_ := Aside0.mk (Kd.R_lower (Kd.R_new' ho0 (Kd.R_lt (by (with_reducible repeat (first | apply Kd.R_alloc | apply Kd.R_drewN | apply Kd.R_drew)); exact HO_6.out))) (below_size (by repeat (first | (with_reducible first | exact HB.out | apply below_alloc | apply pw_below_drewN | apply below_drew1 | refine below_set ?_ (IsS61.ge HI291.out)) | exact HB.out)))); have n2_ := Aside0.mk (IsS61.below (by repeat (first | (with_reducible first | exact HI291.out | apply IsS61.alloc | apply IsS61.drewN | apply IsS61.drew | apply IsS61.set_1) | exact HI291.out)) hb); have n3_ := Aside0.mk (below_step (by repeat (first | (with_reducible first | exact HB.out | apply below_alloc | apply pw_below_drewN | apply below_drew1 | refine below_set ?_ (IsS61.ge HI291.out)) | exact HB.out)) hb); clear HO_6; clear HI291; clear HB; have HO_6 := n0_; have HO328 := n1_; have HI291 := n2_; have HB := n3_; clear n0_ n1_ n2_ n3_; (try clear hb); (try clear hb2); (try clear hk); (try clear hi); (try clear ho0)) | ((with_reducible refine gate_callee (f := 25) rfl ?_); refine goesL_ (some 49) rfl rfl Try.func25 (by kernel_rfl) rfl #[.slice A0 l0.length c0] rfl (by (try simp only [List.map_toArray, List.map_cons, List.map_nil]); first | done | rfl | (simp only [List.length_drop, List.length_take]; rfl)) ?_; (with_reducible refine (payrollref26_Merge.calls k1 _ _ l0 t329 t330 _ ?side1 ?side2 A45.out).mono ?_); (case side1 => repeat (first | exact (Kd.C_below HR0.out HB.out) | (with_reducible refine Kd.C_alloc ?_ _) | (with_reducible refine Kd.C_drewN ?_ _) | (with_reducible refine Kd.C_drew ?_))); (case side2 => exact HC0.out); rintro e w56 ⟨v331, rfl, ho0, hb⟩; refine ⟨_, rfl, ?_⟩; have n0_ := Aside0.mk (Kd.R_elder' (by (with_reducible repeat (first | apply Kd.R_alloc | apply Kd.R_drewN | apply Kd.R_drew)); exact HO_6.out) (Kd.R_base ho0) hb); have n1_ := Aside0.mk (Kd.R_elder' (by (with_reducible repeat (first | apply Kd.R_alloc | apply Kd.R_drewN | apply Kd.R_drew)); exact HO328.out) (Kd.R_base ho0) hb); have n2_ := Aside0.mk (Kd.R_lower (Kd.R_new' (Kd.R_new' ho0 (Kd.R_lt (by (with_reducible repeat (first | apply Kd.R_alloc | apply Kd.R_drewN | apply Kd.R_drew)); exact HO_6.out))) (Kd.R_lt (by (with_reducible repeat (first | apply Kd.R_alloc | apply Kd.R_drewN | apply Kd.R_drew)); exact HO328.out))) (below_size (by repeat (first | (with_reducible first | exact HB.out | apply below_alloc | apply pw_below_drewN | apply below_drew1 | refine below_set ?_ (IsS61.ge HI291.out)) | exact HB.out)))); have n3_ := Aside0.mk (IsS61.below (by repeat (first | (with_reducible first | exact HI291.out | apply IsS61.alloc | apply IsS61.drewN | apply IsS61.drew | apply IsS61.set_1) | exact HI291.out)) hb); have n4_ := Aside0.mk (below_step (by repeat (first | (with_reducible first | exact HB.out | apply below_alloc | apply pw_below_drewN | apply below_drew1 | refine below_set ?_ (IsS61.ge HI291.out)) | exact HB.out)) hb); clear HO_6; clear HO328; clear HI291; clear HB; have HO_6 := n0_; have HO328 := n1_; have HO332 := n2_; have HI291 := n3_; have HB := n4_; clear n0_ n1_ n2_ n3_ n4_; (try clear hb); (try clear hb2); (try clear hk); (try clear hi); (try clear ho0); obtain ⟨Ao57, co57, eo57⟩ := Kd.R_slice HO_6.out; subst eo57) | ((with_reducible refine gate_callee (f := 24) rfl ?_); refine goesL_ (some 54) rfl rfl Try.func24 (by kernel_rfl) rfl #[.slice Ao57 x6_1.length co57] rfl (by (try simp only [List.map_toArray, List.map_cons, List.map_nil]); first | done | rfl | (simp only [List.length_drop, List.length_take]; rfl)) ?_; (with_reducible refine (wage_Merge.calls k1 _ _ x6_1 t333 t334 _ ?side1 ?side2 A46.out).mono ?_); (case side1 => repeat (first | exact (Kd.R_reads' HO_6.out).2.2 | (with_reducible refine Kd.C_alloc ?_ _) | (with_reducible refine Kd.C_drewN ?_ _) | (with_reducible refine Kd.C_drew ?_))); (case side2 => exact (Kd.R_reads' HO_6.out).2.1); rintro e w58 ⟨v335, rfl, ho0, hb⟩; refine ⟨_, rfl, ?_⟩; have n0_ := Aside0.mk (Kd.R_elder' (by (with_reducible repeat (first | apply Kd.R_alloc | apply Kd.R_drewN | apply Kd.R_drew)); exact HO_6.out) (Kd.R_base ho0) hb); have n1_ := Aside0.mk (Kd.R_elder' (by (with_reducible repeat (first | apply Kd.R_alloc | apply Kd.R_drewN | apply Kd.R_drew)); exact HO328.out) (Kd.R_base ho0) hb); have n2_ := Aside0.mk (Kd.R_elder' (by (with_reducible repeat (first | apply Kd.R_alloc | apply Kd.R_drewN | apply Kd.R_drew)); exact HO332.out) (Kd.R_base ho0) hb); have n3_ := Aside0.mk (Kd.R_lower (Kd.R_new' (Kd.R_new' (Kd.R_new' ho0 (Kd.R_lt (by (with_reducible repeat (first | apply Kd.R_alloc | apply Kd.R_drewN | apply Kd.R_drew)); exact HO_6.out))) (Kd.R_lt (by (with_reducible repeat (first | apply Kd.R_alloc | apply Kd.R_drewN | apply Kd.R_drew)); exact HO328.out))) (Kd.R_lt (by (with_reducible repeat (first | apply Kd.R_alloc | apply Kd.R_drewN | apply Kd.R_drew)); exact HO332.out))) (below_size (by repeat (first | (with_reducible first | exact HB.out | apply below_alloc | apply pw_below_drewN | apply below_drew1 | refine below_set ?_ (IsS61.ge HI291.out)) | exact HB.out)))); have n4_ := Aside0.mk (IsS61.below (by repeat (first | (with_reducible first | exact HI291.out | apply IsS61.alloc | apply IsS61.drewN | apply IsS61.drew | apply IsS61.set_1) | exact HI291.out)) hb); have n5_ := Aside0.mk (below_step (by repeat (first | (with_reducible first | exact HB.out | apply below_alloc | apply pw_below_drewN | apply below_drew1 | refine below_set ?_ (IsS61.ge HI291.out)) | exact HB.out)) hb); clear HO_6; clear HO328; clear HO332; clear HI291; clear HB; have HO_6 := n0_; have HO328 := n1_; have HO332 := n2_; have HO336 := n3_; have HI291 := n4_; have HB := n5_; clear n0_ n1_ n2_ n3_ n4_ n5_; (try clear hb); (try clear hb2); (try clear hk); (try clear hi); (try clear ho0)) | ((with_reducible refine gate_callee (f := 25) rfl ?_); refine goesL_ (some 59) rfl rfl Try.func25 (by kernel_rfl) rfl #[.slice Ao57 x6_1.length co57] rfl (by (try simp only [List.map_toArray, List.map_cons, List.map_nil]); first | done | rfl | (simp only [List.length_drop, List.length_take]; rfl)) ?_; (with_reducible refine (payrollref26_Merge.calls k1 _ _ x6_1 t337 t338 _ ?side1 ?side2 A47.out).mono ?_); (case side1 => repeat (first | exact (Kd.R_reads' HO_6.out).2.2 | (with_reducible refine Kd.C_alloc ?_ _) | (with_reducible refine Kd.C_drewN ?_ _) | (with_reducible refine Kd.C_drew ?_))); (case side2 => exact (Kd.R_reads' HO_6.out).2.1); rintro e w59 ⟨v339, rfl, ho0, hb⟩; refine ⟨_, rfl, ?_⟩; have n0_ := Aside0.mk (Kd.R_elder' (by (with_reducible repeat (first | apply Kd.R_alloc | apply Kd.R_drewN | apply Kd.R_drew)); exact HO_6.out) (Kd.R_base ho0) hb); have n1_ := Aside0.mk (Kd.R_elder' (by (with_reducible repeat (first | apply Kd.R_alloc | apply Kd.R_drewN | apply Kd.R_drew)); exact HO328.out) (Kd.R_base ho0) hb); have n2_ := Aside0.mk (Kd.R_elder' (by (with_reducible repeat (first | apply Kd.R_alloc | apply Kd.R_drewN | apply Kd.R_drew)); exact HO332.out) (Kd.R_base ho0) hb); have n3_ := Aside0.mk (Kd.R_elder' (by (with_reducible repeat (first | apply Kd.R_alloc | apply Kd.R_drewN | apply Kd.R_drew)); exact HO336.out) (Kd.R_base ho0) hb); have n4_ := Aside0.mk (Kd.R_lower (Kd.R_new' (Kd.R_new' (Kd.R_new' (Kd.R_new' ho0 (Kd.R_lt (by (with_reducible repeat (first | apply Kd.R_alloc | apply Kd.R_drewN | apply Kd.R_drew)); exact HO_6.out))) (Kd.R_lt (by (with_reducible repeat (first | apply Kd.R_alloc | apply Kd.R_drewN | apply Kd.R_drew)); exact HO328.out))) (Kd.R_lt (by (with_reducible repeat (first | apply Kd.R_alloc | apply Kd.R_drewN | apply Kd.R_drew)); exact HO332.out))) (Kd.R_lt (by (with_reducible repeat (first | apply Kd.R_alloc | apply Kd.R_drewN | apply Kd.R_drew)); exact HO336.out))) (below_size (by repeat (first | (with_reducible first | exact HB.out | apply below_alloc | apply pw_below_drewN | apply below_drew1 | refine below_set ?_ (IsS61.ge HI291.out)) | exact HB.out)))); have n5_ := Aside0.mk (IsS61.below (by repeat (first | (with_reducible first | exact HI291.out | apply IsS61.alloc | apply IsS61.drewN | apply IsS61.drew | apply IsS61.set_1) | exact HI291.out)) hb); have n6_ := Aside0.mk (below_step (by repeat (first | (with_reducible first | exact HB.out | apply below_alloc | apply pw_below_drewN | apply below_drew1 | refine below_set ?_ (IsS61.ge HI291.out)) | exact HB.out)) hb); clear HO_6; clear HO328; clear HO332; clear HO336; clear HI291; clear HB; have HO_6 := n0_; have HO328 := n1_; have HO332 := n2_; have HO336 := n3_; have HO340 := n4_; have HI291 := n5_; have HB := n6_; clear n0_ n1_ n2_ n3_ n4_ n5_ n6_; (try clear hb); (try clear hb2); (try clear hk); (try clear hi); (try clear ho0); obtain ⟨Ao60, co60, eo60⟩ := Kd.R_slice HO328.out; subst eo60; obtain ⟨Ao61, co61, eo61⟩ := Kd.R_slice HO332.out; subst eo61) | (go_at_call 26; (with_reducible refine (payrollref26_Same.calls k1 _ _ t325 _ _ t329 true _ ?side1 ?side2 ?side3 ?side4 A49.out).mono ?_); (case side1 => repeat (first | exact (Kd.R_reads' HO328.out).2.2 | (with_reducible refine Kd.C_alloc ?_ _) | (with_reducible refine Kd.C_drewN ?_ _) | (with_reducible refine Kd.C_drew ?_))); (case side2 => exact (Kd.R_reads' HO328.out).2.1); (case side3 => repeat (first | exact (Kd.R_reads' HO332.out).2.2 | (with_reducible refine Kd.C_alloc ?_ _) | (with_reducible refine Kd.C_drewN ?_ _) | (with_reducible refine Kd.C_drew ?_))); (case side4 => exact (Kd.R_reads' HO332.out).2.1); rintro e w' ⟨rfl, ⟨nd, rfl⟩⟩; obtain ⟨Ao62, co62, eo62⟩ := Kd.R_slice HO336.out; subst eo62; obtain ⟨Ao63, co63, eo63⟩ := Kd.R_slice HO340.out; subst eo63) | (go_at_call 26; (with_reducible refine (payrollref26_Same.calls k1 _ _ t333 _ _ t337 true _ ?side1 ?side2 ?side3 ?side4 A52.out).mono ?_); (case side1 => repeat (first | exact (Kd.R_reads' HO336.out).2.2 | (with_reducible refine Kd.C_alloc ?_ _) | (with_reducible refine Kd.C_drewN ?_ _) | (with_reducible refine Kd.C_drew ?_))); (case side2 => exact (Kd.R_reads' HO336.out).2.1); (case side3 => repeat (first | exact (Kd.R_reads' HO340.out).2.2 | (with_reducible refine Kd.C_alloc ?_ _) | (with_reducible refine Kd.C_drewN ?_ _) | (with_reducible refine Kd.C_drew ?_))); (case side4 => exact (Kd.R_reads' HO340.out).2.1); rintro e w' ⟨rfl, ⟨nd, rfl⟩⟩) | (go_at_call 11; (with_reducible refine (payrolllaw26_awake.calls k1  t343 _ A54.out).mono ?_); rintro e w64 ⟨rfl, hb⟩; have n0_ := Aside0.mk (Kd.R_below (by (with_reducible repeat (first | apply Kd.R_alloc | apply Kd.R_drewN | apply Kd.R_drew)); exact HO_6.out) hb); have n1_ := Aside0.mk (Kd.R_below (by (with_reducible repeat (first | apply Kd.R_alloc | apply Kd.R_drewN | apply Kd.R_drew)); exact HO328.out) hb); have n2_ := Aside0.mk (Kd.R_below (by (with_reducible repeat (first | apply Kd.R_alloc | apply Kd.R_drewN | apply Kd.R_drew)); exact HO332.out) hb); have n3_ := Aside0.mk (Kd.R_below (by (with_reducible repeat (first | apply Kd.R_alloc | apply Kd.R_drewN | apply Kd.R_drew)); exact HO336.out) hb); have n4_ := Aside0.mk (Kd.R_below (by (with_reducible repeat (first | apply Kd.R_alloc | apply Kd.R_drewN | apply Kd.R_drew)); exact HO340.out) hb); have n5_ := Aside0.mk (IsS61.below (by repeat (first | (with_reducible first | exact HI291.out | apply IsS61.alloc | apply IsS61.drewN | apply IsS61.drew | apply IsS61.set_1) | exact HI291.out)) hb); have n6_ := Aside0.mk (below_step (by repeat (first | (with_reducible first | exact HB.out | apply below_alloc | apply pw_below_drewN | apply below_drew1 | refine below_set ?_ (IsS61.ge HI291.out)) | exact HB.out)) hb); clear HO_6; clear HO328; clear HO332; clear HO336; clear HO340; clear HI291; clear HB; have HO_6 := n0_; have HO328 := n1_; have HO332 := n2_; have HO336 := n3_; have HO340 := n4_; have HI291 := n5_; have HB := n6_; clear n0_ n1_ n2_ n3_ n4_ n5_ n6_; (try clear hb); (try clear hb2); (try clear hk); (try clear hi)))
                  go_ret
                  exact ⟨by first | rfl | (simp [errW_none, errW_some] <;> rfl) | (simp [*, errW_none, errW_some] <;> rfl), by repeat (first | (with_reducible first | exact HB.out | apply below_alloc | apply pw_below_drewN | apply below_drew1 | refine below_set ?_ (IsS61.ge HI291.out)) | exact HB.out)⟩
                · replace c53 := Bool.eq_false_iff.mpr c53
                  subst c53
                  have H1 : (none) = some r := by rw [if_neg (show ¬ (false = true) by decide)] at H; exact H
                  clear H
                  have H := H1
                  clear H1
                  exact absurd H (by simp)
              · rw [if_neg c51] at H
                exact absurd H (by simp)
            · replace c50 := Bool.eq_false_iff.mpr c50
              subst c50
              have H1 : (none) = some r := by rw [if_neg (show ¬ (false = true) by decide)] at H; exact H
              clear H
              have H := H1
              clear H1
              exact absurd H (by simp)
          · rw [if_neg c48] at H
            exact absurd H (by simp)
  · replace c4 := Bool.eq_false_iff.mpr c4
    subst c4
    have H1 : ((payrolllaw26_awake.f k).bind fun t344 => (some t344)) = some r := by rw [if_neg (show ¬ (false = true) by decide)] at H; exact H
    clear H
    have H := H1
    clear H1
    replace H := Option.bind_eq_some_iff.mp H
    obtain ⟨t344, A650, H⟩ := H
    replace H : (some t344) = some r := H
    have A65 := Aside0.mk A650
    clear A650
    obtain rfl := Option.some.inj H
    go_enter Try.func5, Try.ntmps5
    go_wp2_with (first | ((with_reducible refine gate_callee (f := 19) rfl ?_); refine goesL_ (some 17) rfl rfl Try.func19 (by kernel_rfl) rfl #[.slice A0 l0.length c0] rfl (by (try simp only [List.map_toArray, List.map_cons, List.map_nil]); first | done | rfl | (simp only [List.length_drop, List.length_take]; rfl)) ?_; (with_reducible refine (paygen_ShortElements.calls k _ _ l0 false _ ?side1 ?side2 A3.out).mono ?_); (case side1 => repeat (first | exact HR0.out | (with_reducible refine Kd.C_alloc ?_ _) | (with_reducible refine Kd.C_drewN ?_ _) | (with_reducible refine Kd.C_drew ?_))); (case side2 => exact HC0.out); rintro e w' ⟨rfl, ⟨nd, rfl⟩⟩; refine ⟨_, rfl, ?_⟩) | ((with_reducible refine gate_callee (f := 11) rfl ?_); refine goesL_ (some 19) rfl rfl Try.func11 (by kernel_rfl) rfl #[] rfl (by (try simp only [List.map_toArray, List.map_cons, List.map_nil]); first | done | rfl | (simp only [List.length_drop, List.length_take]; rfl)) ?_; (with_reducible refine (payrolllaw26_awake.calls k  t344 _ A65.out).mono ?_); rintro e w66 ⟨rfl, hb⟩; refine ⟨_, rfl, ?_⟩; have n0_ := Aside0.mk (below_step (by repeat (first | (with_reducible first | exact HB.out | apply below_alloc | apply pw_below_drewN | apply below_drew1) | exact HB.out)) hb); clear HB; have HB := n0_; clear n0_; (try clear hb); (try clear hb2); (try clear hk); (try clear hi)))
    go_ret
    exact ⟨by first | rfl | (simp [errW_none, errW_some] <;> rfl) | (simp [*, errW_none, errW_some] <;> rfl), by repeat (first | (with_reducible first | exact HB.out | apply below_alloc | apply pw_below_drewN | apply below_drew1) | exact HB.out)⟩

end Go.Proofs.Ytbmcddmhfnnccaa.Q
