-- Printed by wip/xprint.py over the translation, with contracts proved by hand among them. Lean checks it.
import Derived.Test.YtelmnkmpkljboaaQx0
import Derived.Test.YtelmnkmpkljboaaQx5
import Derived.Test.YtelmnkmpkljboaaQx7
import Derived.Test.YtelmnkmpkljboaaQx9
import Derived.Test.YtelmnkmpkljboaaQx12
namespace Go.Proofs.Ytelmnkmpkljboaa.Q
open Go.RowKit Go.Proofs.YtelmnkmpkljboaaW.PrintWords Go.Proofs.YtelmnkmpkljboaaW.PrintLast Go.Proofs.YtelmnkmpkljboaaW.PrintMore
attribute [local go_sem] max2_int min2_int max_two min_two max_three min_three max_four min_four   -- for this text's walks alone
set_option linter.unusedVariables false
set_option linter.unusedSimpArgs false

/-! ### payrolllaw35_BookAdds: function 5 -/
def payrolllaw35_BookAdds.l0 : Nat → List (S27) → List (S27) → List (S27) → List (S27) → Int → Int → Option (Bool)
  | 0, _, _, _, _, _, _ => none
  | k + 1, x1, x2, x8, x9, x10, x11 => if x11 < (x9.length : Int) then (if 0 ≤ x11 then (payrolllaw35_BookAdds.l0 k x1 x2 x8 (x9.set (x11 : Int).toNat (⟨wrap64 (((rd_T27 x9 x11).f0) + x10), (rd_T27 x9 x11).f1, (rd_T27 x9 x11).f2, (⟨(rd_T27 x9 x11).f3.f0, (rd_T27 x9 x11).f3.f1, (rd_T27 x9 x11).f3.f2⟩ : S25)⟩ : S27)) x10 (wrap64 (x11 + 1))) else (none)) else ((book_Add.f k x8 x9).bind fun bt327 => ((payrollref35_Add.f k x8 x9).bind fun bt331 => ((book_Add.f k x1 x2).bind fun bt335 => ((payrollref35_Add.f k x1 x2).bind fun bt339 => (if bt327.2 = bt331.2 then ((payrollref35_Same.f k bt327.1 bt331.1).bind fun t343 => (if t343 = true then (if bt335.2 = bt339.2 then ((payrollref35_Same.f k bt335.1 bt339.1).bind fun t344 => (if t344 = true then ((payrolllaw35_awake.f k).bind fun t345 => (some t345)) else (none))) else (none)) else (none))) else (none))))))
def payrolllaw35_BookAdds.f (k : Nat) (l0 : List Int) (l1 : List (S27)) (l2 : List (S27)) : Option (Bool) := (payrolllaw35_short.f k l1).bind fun t310 => (if t310 = true then ((payrolllaw35_short.f k l2).bind fun t311 => (if t311 = true then ((paygen_New.f l0).bind fun bt312 => ((paygen_Deck_Book.f k bt312.1 bt312.2 3).bind fun bt315 => ((paygen_Deck_Book.f k bt312.1 bt315.2 3).bind fun bt319 => ((paygen_Deck_Next.f bt312.1 bt319.2 8).bind fun bt323 => (payrolllaw35_BookAdds.l0 k l1 l2 bt315.1 bt319.1 bt323.1 0))))) else ((payrolllaw35_awake.f k).bind fun t346 => (some t346)))) else ((payrolllaw35_awake.f k).bind fun t347 => (some t347)))
theorem payrolllaw35_BookAdds.mono_l : ∀ k, (∀ y0 y1 y2 y3 y4 y5, LeO (payrolllaw35_BookAdds.l0 k y0 y1 y2 y3 y4 y5) (payrolllaw35_BookAdds.l0 (k + 1) y0 y1 y2 y3 y4 y5))
  | 0 => fun _ _ _ _ _ _ r h => by simp [payrolllaw35_BookAdds.l0] at h
  | k + 1 => by
    have ih0 := payrolllaw35_BookAdds.mono_l k
    · intro y0 y1 y2 y3 y4 y5
      unfold payrolllaw35_BookAdds.l0
      repeat' first
      | (with_reducible exact ih0 _ _ _ _ _ _)
      | (with_reducible exact book_Add.mono _ _ _)
      | (with_reducible exact paygen_Deck_Book.mono _ _ _ _)
      | (with_reducible exact payrolllaw35_awake.mono _)
      | (with_reducible exact payrolllaw35_short.mono _ _)
      | (with_reducible exact payrollref35_Add.mono _ _ _)
      | (with_reducible exact payrollref35_Same.mono _ _ _)
      | (with_reducible exact LeO.refl _)
      | (with_reducible exact LeO.none _)
      | (with_reducible refine LeO.ite ?_ ?_)
      | (with_reducible refine LeO.bind ?_ (fun _ => ?_))
      | exact ih0 _ _ _ _ _ _
      | exact book_Add.mono _ _ _
      | exact paygen_Deck_Book.mono _ _ _ _
      | exact payrolllaw35_awake.mono _
      | exact payrolllaw35_short.mono _ _
      | exact payrollref35_Add.mono _ _ _
      | exact payrollref35_Same.mono _ _ _
      | exact LeO.none _
      | refine LeO.ite ?_ ?_
      | refine LeO.bind ?_ (fun _ => ?_)
theorem payrolllaw35_BookAdds.mono : ∀ a0 a1 a2 k, LeO (payrolllaw35_BookAdds.f k a0 a1 a2) (payrolllaw35_BookAdds.f (k + 1) a0 a1 a2) := by
  intro a0 a1 a2 k
  have ih0 := payrolllaw35_BookAdds.mono_l k
  unfold payrolllaw35_BookAdds.f
  repeat' first
      | (with_reducible exact ih0 _ _ _ _ _ _)
      | (with_reducible exact book_Add.mono _ _ _)
      | (with_reducible exact paygen_Deck_Book.mono _ _ _ _)
      | (with_reducible exact payrolllaw35_awake.mono _)
      | (with_reducible exact payrolllaw35_short.mono _ _)
      | (with_reducible exact payrollref35_Add.mono _ _ _)
      | (with_reducible exact payrollref35_Same.mono _ _ _)
      | (with_reducible exact LeO.refl _)
      | (with_reducible exact LeO.none _)
      | (with_reducible refine LeO.ite ?_ ?_)
      | (with_reducible refine LeO.bind ?_ (fun _ => ?_))
      | exact ih0 _ _ _ _ _ _
      | exact book_Add.mono _ _ _
      | exact paygen_Deck_Book.mono _ _ _ _
      | exact payrolllaw35_awake.mono _
      | exact payrolllaw35_short.mono _ _
      | exact payrollref35_Add.mono _ _ _
      | exact payrollref35_Same.mono _ _ _
      | exact LeO.none _
      | refine LeO.ite ?_ ?_
      | refine LeO.bind ?_ (fun _ => ?_)
set_option maxHeartbeats 8000000 in
set_option maxRecDepth 100000 in
theorem payrolllaw35_BookAdds.calls (k : Nat) (A0 : Option Addr) (c0 : Nat) (l0 : List Int) (A1 : Option Addr) (c1 : Nat) (l1 : List (S27)) (A2 : Option Addr) (c2 : Nat) (l2 : List (S27)) (r : Bool) (w : World) (hr0 : Kd.C (Kd.int .i64) w A0 l0.length l0) (hc0 : l0.length ≤ c0) (hr1 : Kd.C k27 w A1 l1.length l1) (hc1 : l1.length ≤ c1) (hr2 : Kd.C k27 w A2 l2.length l2) (hc2 : l2.length ≤ c2) (h : payrolllaw35_BookAdds.f k l0 l1 l2 = some r) :
    Calls Try.prog 5 #[.slice A0 l0.length c0, .slice A1 l1.length c1, .slice A2 l2.length c2] w fun e w' => e = .returned (.bool r) ∧ Below w.heap.size w w' := by
  have HR0 := Aside0.mk hr0
  have HC0 := Aside0.mk hc0
  clear hr0 hc0
  have HR1 := Aside0.mk hr1
  have HC1 := Aside0.mk hc1
  clear hr1 hc1
  have HR2 := Aside0.mk hr2
  have HC2 := Aside0.mk hc2
  clear hr2 hc2
  have HB := Aside0.mk (Below.refl w.heap.size w)
  have H : ((payrolllaw35_short.f k l1).bind fun t310 => (if t310 = true then ((payrolllaw35_short.f k l2).bind fun t311 => (if t311 = true then ((paygen_New.f l0).bind fun bt312 => ((paygen_Deck_Book.f k bt312.1 bt312.2 3).bind fun bt315 => ((paygen_Deck_Book.f k bt312.1 bt315.2 3).bind fun bt319 => ((paygen_Deck_Next.f bt312.1 bt319.2 8).bind fun bt323 => (payrolllaw35_BookAdds.l0 k l1 l2 bt315.1 bt319.1 bt323.1 0))))) else ((payrolllaw35_awake.f k).bind fun t346 => (some t346)))) else ((payrolllaw35_awake.f k).bind fun t347 => (some t347)))) = some r := h
  clear h
  replace H := Option.bind_eq_some_iff.mp H
  obtain ⟨t310, A40, H⟩ := H
  replace H : (if t310 = true then ((payrolllaw35_short.f k l2).bind fun t311 => (if t311 = true then ((paygen_New.f l0).bind fun bt312 => ((paygen_Deck_Book.f k bt312.1 bt312.2 3).bind fun bt315 => ((paygen_Deck_Book.f k bt312.1 bt315.2 3).bind fun bt319 => ((paygen_Deck_Next.f bt312.1 bt319.2 8).bind fun bt323 => (payrolllaw35_BookAdds.l0 k l1 l2 bt315.1 bt319.1 bt323.1 0))))) else ((payrolllaw35_awake.f k).bind fun t346 => (some t346)))) else ((payrolllaw35_awake.f k).bind fun t347 => (some t347))) = some r := H
  have A4 := Aside0.mk A40
  clear A40
  by_cases c5 : t310 = true
  · subst c5
    have H1 : ((payrolllaw35_short.f k l2).bind fun t311 => (if t311 = true then ((paygen_New.f l0).bind fun bt312 => ((paygen_Deck_Book.f k bt312.1 bt312.2 3).bind fun bt315 => ((paygen_Deck_Book.f k bt312.1 bt315.2 3).bind fun bt319 => ((paygen_Deck_Next.f bt312.1 bt319.2 8).bind fun bt323 => (payrolllaw35_BookAdds.l0 k l1 l2 bt315.1 bt319.1 bt323.1 0))))) else ((payrolllaw35_awake.f k).bind fun t346 => (some t346)))) = some r := by rw [if_pos rfl] at H; exact H
    clear H
    have H := H1
    clear H1
    replace H := Option.bind_eq_some_iff.mp H
    obtain ⟨t311, A60, H⟩ := H
    replace H : (if t311 = true then ((paygen_New.f l0).bind fun bt312 => ((paygen_Deck_Book.f k bt312.1 bt312.2 3).bind fun bt315 => ((paygen_Deck_Book.f k bt312.1 bt315.2 3).bind fun bt319 => ((paygen_Deck_Next.f bt312.1 bt319.2 8).bind fun bt323 => (payrolllaw35_BookAdds.l0 k l1 l2 bt315.1 bt319.1 bt323.1 0))))) else ((payrolllaw35_awake.f k).bind fun t346 => (some t346))) = some r := H
    have A6 := Aside0.mk A60
    clear A60
    by_cases c7 : t311 = true
    · subst c7
      have H1 : ((paygen_New.f l0).bind fun bt312 => ((paygen_Deck_Book.f k bt312.1 bt312.2 3).bind fun bt315 => ((paygen_Deck_Book.f k bt312.1 bt315.2 3).bind fun bt319 => ((paygen_Deck_Next.f bt312.1 bt319.2 8).bind fun bt323 => (payrolllaw35_BookAdds.l0 k l1 l2 bt315.1 bt319.1 bt323.1 0))))) = some r := by rw [if_pos rfl] at H; exact H
      clear H
      have H := H1
      clear H1
      replace H := Option.bind_eq_some_iff.mp H
      obtain ⟨⟨t312, t313⟩, A80, H⟩ := H
      replace H : ((paygen_Deck_Book.f k t312 t313 3).bind fun bt315 => ((paygen_Deck_Book.f k t312 bt315.2 3).bind fun bt319 => ((paygen_Deck_Next.f t312 bt319.2 8).bind fun bt323 => (payrolllaw35_BookAdds.l0 k l1 l2 bt315.1 bt319.1 bt323.1 0)))) = some r := H
      have A8 := Aside0.mk A80
      clear A80
      replace H := Option.bind_eq_some_iff.mp H
      obtain ⟨⟨t315, t318⟩, A90, H⟩ := H
      replace H : ((paygen_Deck_Book.f k t312 t318 3).bind fun bt319 => ((paygen_Deck_Next.f t312 bt319.2 8).bind fun bt323 => (payrolllaw35_BookAdds.l0 k l1 l2 t315 bt319.1 bt323.1 0))) = some r := H
      have A9 := Aside0.mk A90
      clear A90
      replace H := Option.bind_eq_some_iff.mp H
      obtain ⟨⟨t319, t322⟩, A100, H⟩ := H
      replace H : ((paygen_Deck_Next.f t312 t322 8).bind fun bt323 => (payrolllaw35_BookAdds.l0 k l1 l2 t315 t319 bt323.1 0)) = some r := H
      have A10 := Aside0.mk A100
      clear A100
      replace H := Option.bind_eq_some_iff.mp H
      obtain ⟨⟨t323, t324⟩, A110, H⟩ := H
      replace H : (payrolllaw35_BookAdds.l0 k l1 l2 t315 t319 t323 0) = some r := H
      have A11 := Aside0.mk A110
      clear A110
      have H' := Aside0.mk H
      clear H
      go_enter Try.func5, Try.ntmps5
      go_wp2_with (first | ((with_reducible refine gate_callee (f := 17) rfl ?_); refine goesL_ (some 21) rfl rfl Try.func17 (by kernel_rfl) rfl #[.slice A1 l1.length c1] rfl (by (try simp only [List.map_toArray, List.map_cons, List.map_nil]); first | done | rfl | (simp only [List.length_drop, List.length_take]; rfl)) ?_; (with_reducible refine (payrolllaw35_short.calls k _ _ l1 true _ ?side1 ?side2 A4.out).mono ?_); (case side1 => repeat (first | exact HR1.out | (with_reducible refine Kd.C_alloc ?_ _) | (with_reducible refine Kd.C_drewN ?_ _) | (with_reducible refine Kd.C_drew ?_))); (case side2 => exact HC1.out); rintro e w' ⟨rfl, ⟨nd, rfl⟩⟩; refine ⟨_, rfl, ?_⟩) | (go_at_call 17; (with_reducible refine (payrolllaw35_short.calls k _ _ l2 true _ ?side1 ?side2 A6.out).mono ?_); (case side1 => repeat (first | exact HR2.out | (with_reducible refine Kd.C_alloc ?_ _) | (with_reducible refine Kd.C_drewN ?_ _) | (with_reducible refine Kd.C_drew ?_))); (case side2 => exact HC2.out); rintro e w' ⟨rfl, ⟨nd, rfl⟩⟩) | ((with_reducible refine gate_callee (f := 18) rfl ?_); refine goesL_ (some 30) rfl rfl Try.func18 (by kernel_rfl) rfl #[.slice A0 l0.length c0] rfl (by (try simp only [List.map_toArray, List.map_cons, List.map_nil]); first | done | rfl | (simp only [List.length_drop, List.length_take]; rfl)) ?_; (with_reducible refine (paygen_New.calls _ _ l0 t312 t313 w _ ?side1 ?side2 ?side3 A8.out).mono ?_); (case side1 => repeat (first | (with_reducible first | exact HB.out | apply below_alloc | apply pw_below_drewN | apply below_drew1) | exact HB.out)); (case side2 => exact HR0.out); (case side3 => exact HC0.out); rintro e w12 ⟨g314, rfl, hi, hb, hb2⟩; refine ⟨_, rfl, ?_⟩; have n0_ := Aside0.mk (hb); have n1_ := Aside0.mk (hi); clear HB; have HB := n0_; have HI314 := n1_; clear n0_ n1_; (try clear hb); (try clear hb2); (try clear hk); (try clear hi)) | ((with_reducible refine gate_callee (f := 19) rfl ?_); refine goesL_ (some 32) rfl rfl Try.func19 (by kernel_rfl) rfl #[.pointer (some ⟨g314, 0, none⟩), .int .i64 3] rfl (by (try simp only [List.map_toArray, List.map_cons, List.map_nil]); first | done | rfl | (simp only [List.length_drop, List.length_take]; rfl)) ?_; (with_reducible refine (paygen_Deck_Book.calls k g314 t312 t313 3 t315 t318 w _ ?side1 ?side2 A9.out).mono ?_); (case side1 => repeat (first | (with_reducible first | exact HI314.out | apply IsS64.alloc | apply IsS64.drewN | apply IsS64.drew | apply IsS64.set_1) | exact HI314.out)); (case side2 => repeat (first | (with_reducible first | exact HB.out | apply below_alloc | apply pw_below_drewN | apply below_drew1 | refine below_set ?_ (IsS64.ge HI314.out)) | exact HB.out)); rintro e w13 ⟨v316, rfl, ho0, hi, hb, hk⟩; refine ⟨_, rfl, ?_⟩; have n0_ := Aside0.mk (Kd.R_lower ho0 (below_size (by repeat (first | (with_reducible first | exact HB.out | apply below_alloc | apply pw_below_drewN | apply below_drew1 | refine below_set ?_ (IsS64.ge HI314.out)) | exact HB.out)))); have n1_ := Aside0.mk (hb); have n2_ := Aside0.mk (hi); clear HB; clear HI314; have HO317 := n0_; have HB := n1_; have HI314 := n2_; clear n0_ n1_ n2_; (try clear hb); (try clear hb2); (try clear hk); (try clear hi); (try clear ho0)) | ((with_reducible refine gate_callee (f := 19) rfl ?_); refine goesL_ (some 34) rfl rfl Try.func19 (by kernel_rfl) rfl #[.pointer (some ⟨g314, 0, none⟩), .int .i64 3] rfl (by (try simp only [List.map_toArray, List.map_cons, List.map_nil]); first | done | rfl | (simp only [List.length_drop, List.length_take]; rfl)) ?_; (with_reducible refine (paygen_Deck_Book.calls k g314 t312 t318 3 t319 t322 w _ ?side1 ?side2 A10.out).mono ?_); (case side1 => repeat (first | (with_reducible first | exact HI314.out | apply IsS64.alloc | apply IsS64.drewN | apply IsS64.drew | apply IsS64.set_1) | exact HI314.out)); (case side2 => repeat (first | (with_reducible first | exact HB.out | apply below_alloc | apply pw_below_drewN | apply below_drew1 | refine below_set ?_ (IsS64.ge HI314.out)) | exact HB.out)); rintro e w14 ⟨v320, rfl, ho0, hi, hb, hk⟩; refine ⟨_, rfl, ?_⟩; have n0_ := Aside0.mk (Kd.R_mono (Kd.R_told (Kd.R_oldK (IsS64.apart (show IsS64 w _ g314 t312 t318 from by repeat (first | (with_reducible first | exact HI314.out | apply IsS64.alloc | apply IsS64.drewN | apply IsS64.drew | apply IsS64.set_1) | exact HI314.out)) (by (with_reducible repeat (first | apply Kd.R_alloc | apply Kd.R_drewN | apply Kd.R_drew)); exact HO317.out) (by decide)) hk) (Kd.R_base ho0)) (fun _ h_ => h_.1)); have n1_ := Aside0.mk (Kd.R_lower (Kd.R_new' ho0 (Kd.R_lt (by (with_reducible repeat (first | apply Kd.R_alloc | apply Kd.R_drewN | apply Kd.R_drew)); exact HO317.out))) (below_size (by repeat (first | (with_reducible first | exact HB.out | apply below_alloc | apply pw_below_drewN | apply below_drew1 | refine below_set ?_ (IsS64.ge HI314.out)) | exact HB.out)))); have n2_ := Aside0.mk (hb); have n3_ := Aside0.mk (hi); clear HO317; clear HB; clear HI314; have HO317 := n0_; have HO321 := n1_; have HB := n2_; have HI314 := n3_; clear n0_ n1_ n2_ n3_; (try clear hb); (try clear hb2); (try clear hk); (try clear hi); (try clear ho0)) | ((with_reducible refine gate_callee (f := 23) rfl ?_); refine goesL_ (some 36) rfl rfl Try.func23 (by kernel_rfl) rfl #[.pointer (some ⟨g314, 0, none⟩), .int .i64 8] rfl (by (try simp only [List.map_toArray, List.map_cons, List.map_nil]); first | done | rfl | (simp only [List.length_drop, List.length_take]; rfl)) ?_; (with_reducible refine (paygen_Deck_Next.calls g314 t312 t322 8 t323 t324 w _ ?side1 ?side2 A11.out).mono ?_); (case side1 => repeat (first | (with_reducible first | exact HI314.out | apply IsS64.alloc | apply IsS64.drewN | apply IsS64.drew | apply IsS64.set_1) | exact HI314.out)); (case side2 => repeat (first | (with_reducible first | exact HB.out | apply below_alloc | apply pw_below_drewN | apply below_drew1 | refine below_set ?_ (IsS64.ge HI314.out)) | exact HB.out)); rintro e w15 ⟨rfl, hi, hb, hk⟩; refine ⟨_, rfl, ?_⟩; have n0_ := Aside0.mk (Kd.R_mono (Kd.R_keep (IsS64.apart (show IsS64 w _ g314 t312 t322 from by repeat (first | (with_reducible first | exact HI314.out | apply IsS64.alloc | apply IsS64.drewN | apply IsS64.drew | apply IsS64.set_1) | exact HI314.out)) (by (with_reducible repeat (first | apply Kd.R_alloc | apply Kd.R_drewN | apply Kd.R_drew)); exact HO317.out) (by decide)) hk (fun _ h => h.2)) (fun _ h => h.1)); have n1_ := Aside0.mk (Kd.R_mono (Kd.R_keep (IsS64.apart (show IsS64 w _ g314 t312 t322 from by repeat (first | (with_reducible first | exact HI314.out | apply IsS64.alloc | apply IsS64.drewN | apply IsS64.drew | apply IsS64.set_1) | exact HI314.out)) (by (with_reducible repeat (first | apply Kd.R_alloc | apply Kd.R_drewN | apply Kd.R_drew)); exact HO321.out) (by decide)) hk (fun _ h => h.2)) (fun _ h => h.1)); have n2_ := Aside0.mk (hb); have n3_ := Aside0.mk (hi); clear HO317; clear HO321; clear HB; clear HI314; have HO317 := n0_; have HO321 := n1_; have HB := n2_; have HI314 := n3_; clear n0_ n1_ n2_ n3_; (try clear hb); (try clear hb2); (try clear hk); (try clear hi)))
      go_loopg [11] k (fun kq v11 w' => ∃ (x9_1 : List (S27)) (x11_1 : Int), v11 = .int .i64 x11_1 ∧ Aside0 (payrolllaw35_BookAdds.l0 kq l1 l2 t315 x9_1 t323 x11_1 = some r) ∧ Aside0 (kq ≤ k) ∧ Aside0 (Kd.R k27 27 w' w.heap.size (fun k_ => some k_ ≠ (v320 : Value).ownBlock) v316 t315) ∧ Aside0 (Kd.R k27 27 w' w.heap.size (fun k_ => some k_ ≠ (v316 : Value).ownBlock) v320 x9_1) ∧ Aside0 (Below w.heap.size w w'))
      case atStart => exact ⟨(t319), (0), (by first | rfl | (simp; done) | (simp [*]; done)), H', ⟨Nat.le_refl _⟩, ⟨by (with_reducible repeat (first | apply Kd.R_alloc | apply Kd.R_drewN | apply Kd.R_drew)); exact Kd.R_mono HO317.out (fun _ hk => hk.2)⟩, ⟨by (with_reducible repeat (first | apply Kd.R_alloc | apply Kd.R_drewN | apply Kd.R_drew)); exact Kd.R_mono HO321.out (fun _ hk => hk.2)⟩, ⟨by repeat (first | (with_reducible first | exact HB.out | apply below_alloc | apply pw_below_drewN | apply below_drew1 | refine below_set ?_ (IsS64.ge HI314.out)) | exact HB.out)⟩⟩
      case round =>
        clear H'
        try clear c1
        try clear c2
        try clear p2
        try clear c5
        try clear c7
        obtain ⟨x9_1, x11_1, rfl, HA, HK1, HO_8, HO_9, HB⟩ := hrel
        cases gk with
        | zero => exact absurd HA.out (by simp [payrolllaw35_BookAdds.l0])
        | succ k1 =>
          have H := HA.out
          clear HA
          simp only [payrolllaw35_BookAdds.l0] at H
          by_cases c16 : x11_1 < (x9_1.length : Int)
          · rw [if_pos c16] at H
            have c16b0 : decide (x11_1 < (x9_1.length : Int)) = true := decide_eq_true c16
            clear c16
            by_cases c17 : 0 ≤ x11_1
            · rw [if_pos c17] at H
              have c17b0 : decide (0 ≤ x11_1) = true := decide_eq_true c17
              clear c17
              obtain ⟨y326, hy326⟩ : ∃ y_ : List (S27), y_ = (x9_1.set (x11_1 : Int).toNat (⟨wrap64 (((rd_T27 x9_1 x11_1).f0) + t323), (rd_T27 x9_1 x11_1).f1, (rd_T27 x9_1 x11_1).f2, (⟨(rd_T27 x9_1 x11_1).f3.f0, (rd_T27 x9_1 x11_1).f3.f1, (rd_T27 x9_1 x11_1).f3.f2⟩ : S25)⟩ : S27)) := ⟨_, rfl⟩
              replace H : (payrolllaw35_BookAdds.l0 k1 l1 l2 t315 y326 t323 (wrap64 (x11_1 + 1))) = some r := by first | (rw [hy326]; with_reducible exact H) | (have H2_ := (Option.bind_some _ _).symm.trans H; rw [hy326]; with_reducible exact H2_) | (have H2_ := (Option.bind_some _ _).symm.trans H; with_reducible exact H2_) | with_reducible exact H | (rw [hy326]; exact H) | exact H
              have Ny326 := Aside0.mk hy326
              clear hy326
              have H' := Aside0.mk H
              clear H
              obtain ⟨Ao19, co19, eo19⟩ := Kd.R_slice HO_9.out
              subst eo19
              have p325 : 0 ≤ (x11_1 : Int) := of_decide_eq_true (by first | (with_reducible assumption) | assumption)
              have q325 : x11_1 < (x9_1.length : Int) := of_decide_eq_true (by first | (with_reducible assumption) | assumption)
              obtain ⟨ad325, e325, hx325_0, hx325_1, hx325_2, hx325_3, hx325_4, hx325_5⟩ := at_T27 (Kd.R_reads' HO_9.out).2.2 x11_1 p325 q325
              cases e325
              replace p325 := eq_true p325
              replace q325 := eq_true q325
              have p18 : 0 ≤ (x11_1 : Int) := of_decide_eq_true (by first | (with_reducible assumption) | assumption)
              have q18 : (x11_1 : Int) < ((x9_1.length : Int) : Int) := of_decide_eq_true (by first | (with_reducible assumption) | assumption)
              obtain ⟨go18, co18, eo18, gb18, gl18, cl18, HG18⟩ := Kd.R_form HO_9.out (by omega)
              (first | cases eo18 | (injection eo18 with ea_ en_ ec_; (first | subst ea_ | (injection ea_ with ea_; subst ea_)); subst ec_; clear en_))
              have GB18 := Aside0.mk gb18
              have GG18 := Aside0.mk HG18
              clear gb18 gl18 HG18
              (first | simp only [add_plain] at hx325_0 | skip)
              (first | simp only [add_plain] at hx325_1 | skip)
              (first | simp only [add_plain] at hx325_2 | skip)
              (first | simp only [add_plain] at hx325_3 | skip)
              (first | simp only [add_plain] at hx325_4 | skip)
              (first | simp only [add_plain] at hx325_5 | skip)
              obtain ⟨ce18, hcl18, hM18, hcc18, hfr18⟩ := Kd.R_elem HO_9.out z27 (x11_1 : Int) p18 q18
              obtain rfl := k27_openM hM18
              have hx18_0 : wr.cell? ⟨go18, (x11_1 : Int).toNat * 6, none⟩ = some (.int .i64 ((rd_T27 x9_1 x11_1).f0)) := hcc18 0 _ rfl
              have hx18_1 : wr.cell? ⟨go18, (x11_1 : Int).toNat * 6 + 1, none⟩ = some (.int .i64 ((rd_T27 x9_1 x11_1).f1)) := hcc18 1 _ rfl
              have hx18_2 : wr.cell? ⟨go18, (x11_1 : Int).toNat * 6 + 2, none⟩ = some (.int .i64 ((rd_T27 x9_1 x11_1).f2)) := hcc18 2 _ rfl
              have hx18_3 : wr.cell? ⟨go18, (x11_1 : Int).toNat * 6 + 3, none⟩ = some (.int .i64 ((rd_T27 x9_1 x11_1).f3.f0)) := hcc18 3 _ rfl
              have hx18_4 : wr.cell? ⟨go18, (x11_1 : Int).toNat * 6 + 4, none⟩ = some (.string ((rd_T27 x9_1 x11_1).f3.f1)) := hcc18 4 _ rfl
              have hx18_5 : wr.cell? ⟨go18, (x11_1 : Int).toNat * 6 + 5, none⟩ = some (.int .i64 ((rd_T27 x9_1 x11_1).f3.f2)) := hcc18 5 _ rfl
              have hf18_0 : wr.frozen? ⟨go18, (x11_1 : Int).toNat * 6, none⟩ = false := hfr18 0
              have hf18_1 : wr.frozen? ⟨go18, (x11_1 : Int).toNat * 6 + 1, none⟩ = false := hfr18 1
              have hf18_2 : wr.frozen? ⟨go18, (x11_1 : Int).toNat * 6 + 2, none⟩ = false := hfr18 2
              have hf18_3 : wr.frozen? ⟨go18, (x11_1 : Int).toNat * 6 + 3, none⟩ = false := hfr18 3
              have hf18_4 : wr.frozen? ⟨go18, (x11_1 : Int).toNat * 6 + 4, none⟩ = false := hfr18 4
              have hf18_5 : wr.frozen? ⟨go18, (x11_1 : Int).toNat * 6 + 5, none⟩ = false := hfr18 5
              clear hcl18 hcc18 hfr18 hM18
              replace p18 := eq_true p18
              replace q18 := eq_true q18
              have HX20 := Aside0.mk (show Kd.R k27 27 wr w.heap.size (fun k_ => some k_ ≠ (v316 : Value).ownBlock) (.slice (some ⟨go18, 0, none⟩) x9_1.length co19) x9_1 from (by (with_reducible repeat (first | apply Kd.R_alloc | apply Kd.R_drewN | apply Kd.R_drew)); exact HO_9.out))
              obtain ⟨ce20, hcl20, hM20, hcc20, hfr20⟩ := Kd.R_elem HX20.out z27 (x11_1 : Int) (of_decide_eq_true (by first | (with_reducible assumption) | assumption)) (by have h_ : (x11_1 : Int) < ((x9_1.length : Int) : Int) := of_decide_eq_true (by first | (with_reducible assumption) | assumption); first | exact h_ | (have e_ := (Kd.R_reads' HO_9.out).1; omega) | simpa using h_)
              obtain rfl := k27_openM hM20
              have HP20 := Kd.R_seg HX20.out (x11_1 : Int) (of_decide_eq_true (by first | (with_reducible assumption) | assumption)) (by have h_ : (x11_1 : Int) < ((x9_1.length : Int) : Int) := of_decide_eq_true (by first | (with_reducible assumption) | assumption); first | exact h_ | (have e_ := (Kd.R_reads' HO_9.out).1; omega) | simpa using h_) (seg := [.int .i64 (wrap64 (((rd_T27 x9_1 x11_1).f0) + t323))]) (j := 0) hcl20 hcc20 (show 1 ≤ 6 from by decide) (x' := (⟨wrap64 (((rd_T27 x9_1 x11_1).f0) + t323), (rd_T27 x9_1 x11_1).f1, (rd_T27 x9_1 x11_1).f2, (⟨(rd_T27 x9_1 x11_1).f3.f0, (rd_T27 x9_1 x11_1).f3.f1, (rd_T27 x9_1 x11_1).f3.f2⟩ : S25)⟩ : S27)) (k27_mkM _ _ _ (⟨wrap64 (((rd_T27 x9_1 x11_1).f0) + t323), (rd_T27 x9_1 x11_1).f1, (rd_T27 x9_1 x11_1).f2, (⟨(rd_T27 x9_1 x11_1).f3.f0, (rd_T27 x9_1 x11_1).f3.f1, (rd_T27 x9_1 x11_1).f3.f2⟩ : S25)⟩ : S27) ) (fun _ hk => hk)
              have hx20_0 := hcc20 0 _ rfl
              (try simp only [show (k27).sz = 6 from rfl, Nat.mul_one, Nat.add_zero] at hx20_0)
              have hf20_0 := hfr20 0
              (try simp only [show (k27).sz = 6 from rfl, Nat.mul_one, Nat.add_zero] at hf20_0)
              clear hcl20 hcc20 hfr20 hM20
              go_wp2_with (first | ((with_reducible refine gate_store (t := 3) (p := 51) rfl ?_); refine store_event (t := 3) (p := 51) (v := ?vo_w21) (w1 := (wr.setCell ⟨go18, (x11_1 : Int).toNat * 6, none⟩ (.int .i64 (wrap64 (((rd_T27 x9_1 x11_1).f0) + t323))))) ?hg ?ho ?hn ?hr ?_; (case ho => rfl); (case hg => rfl); (case hn => rfl); (case hr => first | (go_simp; done) | (go_simp; rfl)); intro w21 hw; have hg : wr.grownBy w21 (some go18) := (by rw [hw]; exact HP20.2); have hp_ : Kd.R k27 27 w21 w.heap.size (fun k_ => some k_ ≠ (v316 : Value).ownBlock) (.slice (some ⟨go18, 0, none⟩) x9_1.length co19) y326 := (by rw [hw, Ny326.out]; exact HP20.1); clear HP20; have n0_ := Aside0.mk (Kd.R_after (v := (.slice (some ⟨go18, 0, none⟩) x9_1.length co19)) (v1 := (.slice (some ⟨go18, 0, none⟩) x9_1.length co19)) (ok := (fun _ => True)) (by (with_reducible repeat (first | apply Kd.R_alloc | apply Kd.R_drewN | apply Kd.R_drew)); exact Kd.R_mono HO_8.out (fun _ hk => ⟨trivial, hk⟩)) hg (.inl rfl)); have n1_ := Aside0.mk (hp_); have n2_ := Aside0.mk ((by rw [hw]; exact below_set (HB.out) GB18.out : Below w.heap.size w w21)); clear HO_8; clear HO_9; clear HB; have HO_8 := n0_; have HO_9 := n1_; have HB := n2_; clear n0_ n1_ n2_; clear hg hw hp_))
              go_roundg k1
              case measure => have := HK1.out; omega
              case rel => exact ⟨(y326), (wrap64 (x11_1 + 1)), (by first | rfl | (simp; done) | (simp [*]; done)), H', ⟨by have := HK1.out; omega⟩, ⟨by (with_reducible repeat (first | apply Kd.R_alloc | apply Kd.R_drewN | apply Kd.R_drew)); exact Kd.R_mono HO_8.out (fun _ hk => hk.2)⟩, ⟨by (with_reducible repeat (first | apply Kd.R_alloc | apply Kd.R_drewN | apply Kd.R_drew)); exact HO_9.out⟩, ⟨by repeat (first | (with_reducible first | exact HB.out | apply below_alloc | apply pw_below_drewN | apply below_drew1) | exact HB.out)⟩⟩
            · rw [if_neg c17] at H
              exact absurd H (by simp)
          · rw [if_neg c16] at H
            have c16b0 : decide (x11_1 < (x9_1.length : Int)) = false := decide_eq_false c16
            clear c16
            replace H := Option.bind_eq_some_iff.mp H
            obtain ⟨⟨t327, t328⟩, A220, H⟩ := H
            replace H : ((payrollref35_Add.f k1 t315 x9_1).bind fun bt331 => ((book_Add.f k1 l1 l2).bind fun bt335 => ((payrollref35_Add.f k1 l1 l2).bind fun bt339 => (if t328 = bt331.2 then ((payrollref35_Same.f k1 t327 bt331.1).bind fun t343 => (if t343 = true then (if bt335.2 = bt339.2 then ((payrollref35_Same.f k1 bt335.1 bt339.1).bind fun t344 => (if t344 = true then ((payrolllaw35_awake.f k1).bind fun t345 => (some t345)) else (none))) else (none)) else (none))) else (none))))) = some r := H
            have A22 := Aside0.mk A220
            clear A220
            replace H := Option.bind_eq_some_iff.mp H
            obtain ⟨⟨t331, t332⟩, A230, H⟩ := H
            replace H : ((book_Add.f k1 l1 l2).bind fun bt335 => ((payrollref35_Add.f k1 l1 l2).bind fun bt339 => (if t328 = t332 then ((payrollref35_Same.f k1 t327 t331).bind fun t343 => (if t343 = true then (if bt335.2 = bt339.2 then ((payrollref35_Same.f k1 bt335.1 bt339.1).bind fun t344 => (if t344 = true then ((payrolllaw35_awake.f k1).bind fun t345 => (some t345)) else (none))) else (none)) else (none))) else (none)))) = some r := H
            have A23 := Aside0.mk A230
            clear A230
            replace H := Option.bind_eq_some_iff.mp H
            obtain ⟨⟨t335, t336⟩, A240, H⟩ := H
            replace H : ((payrollref35_Add.f k1 l1 l2).bind fun bt339 => (if t328 = t332 then ((payrollref35_Same.f k1 t327 t331).bind fun t343 => (if t343 = true then (if t336 = bt339.2 then ((payrollref35_Same.f k1 t335 bt339.1).bind fun t344 => (if t344 = true then ((payrolllaw35_awake.f k1).bind fun t345 => (some t345)) else (none))) else (none)) else (none))) else (none))) = some r := H
            have A24 := Aside0.mk A240
            clear A240
            replace H := Option.bind_eq_some_iff.mp H
            obtain ⟨⟨t339, t340⟩, A250, H⟩ := H
            replace H : (if t328 = t332 then ((payrollref35_Same.f k1 t327 t331).bind fun t343 => (if t343 = true then (if t336 = t340 then ((payrollref35_Same.f k1 t335 t339).bind fun t344 => (if t344 = true then ((payrolllaw35_awake.f k1).bind fun t345 => (some t345)) else (none))) else (none)) else (none))) else (none)) = some r := H
            have A25 := Aside0.mk A250
            clear A250
            by_cases c26 : t328 = t332
            · rw [if_pos c26] at H
              have c26b0 : (t328 == t332) = true := beq_iff_eq.mpr c26
              have c26b1 : (t328 != t332) = false := bne_eq_false_iff_eq.mpr c26
              clear c26
              replace H := Option.bind_eq_some_iff.mp H
              obtain ⟨t343, A270, H⟩ := H
              replace H : (if t343 = true then (if t336 = t340 then ((payrollref35_Same.f k1 t335 t339).bind fun t344 => (if t344 = true then ((payrolllaw35_awake.f k1).bind fun t345 => (some t345)) else (none))) else (none)) else (none)) = some r := H
              have A27 := Aside0.mk A270
              clear A270
              by_cases c28 : t343 = true
              · subst c28
                have H1 : (if t336 = t340 then ((payrollref35_Same.f k1 t335 t339).bind fun t344 => (if t344 = true then ((payrolllaw35_awake.f k1).bind fun t345 => (some t345)) else (none))) else (none)) = some r := by rw [if_pos rfl] at H; exact H
                clear H
                have H := H1
                clear H1
                by_cases c29 : t336 = t340
                · rw [if_pos c29] at H
                  have c29b0 : (t336 == t340) = true := beq_iff_eq.mpr c29
                  have c29b1 : (t336 != t340) = false := bne_eq_false_iff_eq.mpr c29
                  clear c29
                  replace H := Option.bind_eq_some_iff.mp H
                  obtain ⟨t344, A300, H⟩ := H
                  replace H : (if t344 = true then ((payrolllaw35_awake.f k1).bind fun t345 => (some t345)) else (none)) = some r := H
                  have A30 := Aside0.mk A300
                  clear A300
                  by_cases c31 : t344 = true
                  · subst c31
                    have H1 : ((payrolllaw35_awake.f k1).bind fun t345 => (some t345)) = some r := by rw [if_pos rfl] at H; exact H
                    clear H
                    have H := H1
                    clear H1
                    replace H := Option.bind_eq_some_iff.mp H
                    obtain ⟨t345, A320, H⟩ := H
                    replace H : (some t345) = some r := H
                    have A32 := Aside0.mk A320
                    clear A320
                    obtain rfl := Option.some.inj H
                    obtain ⟨Ao33, co33, eo33⟩ := Kd.R_slice HO_9.out
                    subst eo33
                    obtain ⟨Ao34, co34, eo34⟩ := Kd.R_slice HO_8.out
                    subst eo34
                    go_wp2_with (first | ((with_reducible refine gate_callee (f := 13) rfl ?_); refine goesL_ (some 55) rfl rfl Try.func13 (by kernel_rfl) rfl #[.slice Ao34 t315.length co34, .slice Ao33 x9_1.length co33] rfl (by (try simp only [List.map_toArray, List.map_cons, List.map_nil]); first | done | rfl | (simp only [List.length_drop, List.length_take]; rfl)) ?_; (with_reducible refine (book_Add.calls k1 _ _ t315 _ _ x9_1 t327 t328 _ ?side1 ?side2 ?side3 ?side4 A22.out).mono ?_); (case side1 => repeat (first | exact (Kd.R_reads' HO_8.out).2.2 | (with_reducible refine Kd.C_alloc ?_ _) | (with_reducible refine Kd.C_drewN ?_ _) | (with_reducible refine Kd.C_drew ?_))); (case side2 => exact (Kd.R_reads' HO_8.out).2.1); (case side3 => repeat (first | exact (Kd.R_reads' HO_9.out).2.2 | (with_reducible refine Kd.C_alloc ?_ _) | (with_reducible refine Kd.C_drewN ?_ _) | (with_reducible refine Kd.C_drew ?_))); (case side4 => exact (Kd.R_reads' HO_9.out).2.1); rintro e w35 ⟨v329, rfl, ho0, hb⟩; refine ⟨_, rfl, ?_⟩; have n0_ := Aside0.mk (Kd.R_elder' (by (with_reducible repeat (first | apply Kd.R_alloc | apply Kd.R_drewN | apply Kd.R_drew)); exact HO_8.out) (Kd.R_base ho0) hb); have n1_ := Aside0.mk (Kd.R_elder' (by (with_reducible repeat (first | apply Kd.R_alloc | apply Kd.R_drewN | apply Kd.R_drew)); exact HO_9.out) (Kd.R_base ho0) hb); have n2_ := Aside0.mk (Kd.R_lower (Kd.R_new' (Kd.R_new' ho0 (Kd.R_lt (by (with_reducible repeat (first | apply Kd.R_alloc | apply Kd.R_drewN | apply Kd.R_drew)); exact HO_8.out))) (Kd.R_lt (by (with_reducible repeat (first | apply Kd.R_alloc | apply Kd.R_drewN | apply Kd.R_drew)); exact HO_9.out))) (below_size (by repeat (first | (with_reducible first | exact HB.out | apply below_alloc | apply pw_below_drewN | apply below_drew1) | exact HB.out)))); have n3_ := Aside0.mk (below_step (by repeat (first | (with_reducible first | exact HB.out | apply below_alloc | apply pw_below_drewN | apply below_drew1) | exact HB.out)) hb); clear HO_8; clear HO_9; clear HB; have HO_8 := n0_; have HO_9 := n1_; have HO330 := n2_; have HB := n3_; clear n0_ n1_ n2_ n3_; (try clear hb); (try clear hb2); (try clear hk); (try clear hi); (try clear ho0)) | ((with_reducible refine gate_callee (f := 24) rfl ?_); refine goesL_ (some 61) rfl rfl Try.func24 (by kernel_rfl) rfl #[.slice Ao34 t315.length co34, .slice Ao33 x9_1.length co33] rfl (by (try simp only [List.map_toArray, List.map_cons, List.map_nil]); first | done | rfl | (simp only [List.length_drop, List.length_take]; rfl)) ?_; (with_reducible refine (payrollref35_Add.calls k1 _ _ t315 _ _ x9_1 t331 t332 _ ?side1 ?side2 ?side3 ?side4 A23.out).mono ?_); (case side1 => repeat (first | exact (Kd.R_reads' HO_8.out).2.2 | (with_reducible refine Kd.C_alloc ?_ _) | (with_reducible refine Kd.C_drewN ?_ _) | (with_reducible refine Kd.C_drew ?_))); (case side2 => exact (Kd.R_reads' HO_8.out).2.1); (case side3 => repeat (first | exact (Kd.R_reads' HO_9.out).2.2 | (with_reducible refine Kd.C_alloc ?_ _) | (with_reducible refine Kd.C_drewN ?_ _) | (with_reducible refine Kd.C_drew ?_))); (case side4 => exact (Kd.R_reads' HO_9.out).2.1); rintro e w36 ⟨v333, rfl, ho0, hb⟩; refine ⟨_, rfl, ?_⟩; have n0_ := Aside0.mk (Kd.R_elder' (by (with_reducible repeat (first | apply Kd.R_alloc | apply Kd.R_drewN | apply Kd.R_drew)); exact HO_8.out) (Kd.R_base ho0) hb); have n1_ := Aside0.mk (Kd.R_elder' (by (with_reducible repeat (first | apply Kd.R_alloc | apply Kd.R_drewN | apply Kd.R_drew)); exact HO_9.out) (Kd.R_base ho0) hb); have n2_ := Aside0.mk (Kd.R_elder' (by (with_reducible repeat (first | apply Kd.R_alloc | apply Kd.R_drewN | apply Kd.R_drew)); exact HO330.out) (Kd.R_base ho0) hb); have n3_ := Aside0.mk (Kd.R_lower (Kd.R_new' (Kd.R_new' (Kd.R_new' ho0 (Kd.R_lt (by (with_reducible repeat (first | apply Kd.R_alloc | apply Kd.R_drewN | apply Kd.R_drew)); exact HO_8.out))) (Kd.R_lt (by (with_reducible repeat (first | apply Kd.R_alloc | apply Kd.R_drewN | apply Kd.R_drew)); exact HO_9.out))) (Kd.R_lt (by (with_reducible repeat (first | apply Kd.R_alloc | apply Kd.R_drewN | apply Kd.R_drew)); exact HO330.out))) (below_size (by repeat (first | (with_reducible first | exact HB.out | apply below_alloc | apply pw_below_drewN | apply below_drew1) | exact HB.out)))); have n4_ := Aside0.mk (below_step (by repeat (first | (with_reducible first | exact HB.out | apply below_alloc | apply pw_below_drewN | apply below_drew1) | exact HB.out)) hb); clear HO_8; clear HO_9; clear HO330; clear HB; have HO_8 := n0_; have HO_9 := n1_; have HO330 := n2_; have HO334 := n3_; have HB := n4_; clear n0_ n1_ n2_ n3_ n4_; (try clear hb); (try clear hb2); (try clear hk); (try clear hi); (try clear ho0)) | ((with_reducible refine gate_callee (f := 13) rfl ?_); refine goesL_ (some 67) rfl rfl Try.func13 (by kernel_rfl) rfl #[.slice A1 l1.length c1, .slice A2 l2.length c2] rfl (by (try simp only [List.map_toArray, List.map_cons, List.map_nil]); first | done | rfl | (simp only [List.length_drop, List.length_take]; rfl)) ?_; (with_reducible refine (book_Add.calls k1 _ _ l1 _ _ l2 t335 t336 _ ?side1 ?side2 ?side3 ?side4 A24.out).mono ?_); (case side1 => repeat (first | exact (Kd.C_below HR1.out HB.out) | (with_reducible refine Kd.C_alloc ?_ _) | (with_reducible refine Kd.C_drewN ?_ _) | (with_reducible refine Kd.C_drew ?_))); (case side2 => exact HC1.out); (case side3 => repeat (first | exact (Kd.C_below HR2.out HB.out) | (with_reducible refine Kd.C_alloc ?_ _) | (with_reducible refine Kd.C_drewN ?_ _) | (with_reducible refine Kd.C_drew ?_))); (case side4 => exact HC2.out); rintro e w37 ⟨v337, rfl, ho0, hb⟩; refine ⟨_, rfl, ?_⟩; have n0_ := Aside0.mk (Kd.R_elder' (by (with_reducible repeat (first | apply Kd.R_alloc | apply Kd.R_drewN | apply Kd.R_drew)); exact HO_8.out) (Kd.R_base ho0) hb); have n1_ := Aside0.mk (Kd.R_elder' (by (with_reducible repeat (first | apply Kd.R_alloc | apply Kd.R_drewN | apply Kd.R_drew)); exact HO_9.out) (Kd.R_base ho0) hb); have n2_ := Aside0.mk (Kd.R_elder' (by (with_reducible repeat (first | apply Kd.R_alloc | apply Kd.R_drewN | apply Kd.R_drew)); exact HO330.out) (Kd.R_base ho0) hb); have n3_ := Aside0.mk (Kd.R_elder' (by (with_reducible repeat (first | apply Kd.R_alloc | apply Kd.R_drewN | apply Kd.R_drew)); exact HO334.out) (Kd.R_base ho0) hb); have n4_ := Aside0.mk (Kd.R_lower (Kd.R_new' (Kd.R_new' (Kd.R_new' (Kd.R_new' ho0 (Kd.R_lt (by (with_reducible repeat (first | apply Kd.R_alloc | apply Kd.R_drewN | apply Kd.R_drew)); exact HO_8.out))) (Kd.R_lt (by (with_reducible repeat (first | apply Kd.R_alloc | apply Kd.R_drewN | apply Kd.R_drew)); exact HO_9.out))) (Kd.R_lt (by (with_reducible repeat (first | apply Kd.R_alloc | apply Kd.R_drewN | apply Kd.R_drew)); exact HO330.out))) (Kd.R_lt (by (with_reducible repeat (first | apply Kd.R_alloc | apply Kd.R_drewN | apply Kd.R_drew)); exact HO334.out))) (below_size (by repeat (first | (with_reducible first | exact HB.out | apply below_alloc | apply pw_below_drewN | apply below_drew1) | exact HB.out)))); have n5_ := Aside0.mk (below_step (by repeat (first | (with_reducible first | exact HB.out | apply below_alloc | apply pw_below_drewN | apply below_drew1) | exact HB.out)) hb); clear HO_8; clear HO_9; clear HO330; clear HO334; clear HB; have HO_8 := n0_; have HO_9 := n1_; have HO330 := n2_; have HO334 := n3_; have HO338 := n4_; have HB := n5_; clear n0_ n1_ n2_ n3_ n4_ n5_; (try clear hb); (try clear hb2); (try clear hk); (try clear hi); (try clear ho0)) | ((with_reducible refine gate_callee (f := 24) rfl ?_); refine goesL_ (some 73) rfl rfl Try.func24 (by kernel_rfl) rfl #[.slice A1 l1.length c1, .slice A2 l2.length c2] rfl (by (try simp only [List.map_toArray, List.map_cons, List.map_nil]); first | done | rfl | (simp only [List.length_drop, List.length_take]; rfl)) ?_; (with_reducible refine (payrollref35_Add.calls k1 _ _ l1 _ _ l2 t339 t340 _ ?side1 ?side2 ?side3 ?side4 A25.out).mono ?_); (case side1 => repeat (first | exact (Kd.C_below HR1.out HB.out) | (with_reducible refine Kd.C_alloc ?_ _) | (with_reducible refine Kd.C_drewN ?_ _) | (with_reducible refine Kd.C_drew ?_))); (case side2 => exact HC1.out); (case side3 => repeat (first | exact (Kd.C_below HR2.out HB.out) | (with_reducible refine Kd.C_alloc ?_ _) | (with_reducible refine Kd.C_drewN ?_ _) | (with_reducible refine Kd.C_drew ?_))); (case side4 => exact HC2.out); rintro e w38 ⟨v341, rfl, ho0, hb⟩; refine ⟨_, rfl, ?_⟩; have n0_ := Aside0.mk (Kd.R_elder' (by (with_reducible repeat (first | apply Kd.R_alloc | apply Kd.R_drewN | apply Kd.R_drew)); exact HO_8.out) (Kd.R_base ho0) hb); have n1_ := Aside0.mk (Kd.R_elder' (by (with_reducible repeat (first | apply Kd.R_alloc | apply Kd.R_drewN | apply Kd.R_drew)); exact HO_9.out) (Kd.R_base ho0) hb); have n2_ := Aside0.mk (Kd.R_elder' (by (with_reducible repeat (first | apply Kd.R_alloc | apply Kd.R_drewN | apply Kd.R_drew)); exact HO330.out) (Kd.R_base ho0) hb); have n3_ := Aside0.mk (Kd.R_elder' (by (with_reducible repeat (first | apply Kd.R_alloc | apply Kd.R_drewN | apply Kd.R_drew)); exact HO334.out) (Kd.R_base ho0) hb); have n4_ := Aside0.mk (Kd.R_elder' (by (with_reducible repeat (first | apply Kd.R_alloc | apply Kd.R_drewN | apply Kd.R_drew)); exact HO338.out) (Kd.R_base ho0) hb); have n5_ := Aside0.mk (Kd.R_lower (Kd.R_new' (Kd.R_new' (Kd.R_new' (Kd.R_new' (Kd.R_new' ho0 (Kd.R_lt (by (with_reducible repeat (first | apply Kd.R_alloc | apply Kd.R_drewN | apply Kd.R_drew)); exact HO_8.out))) (Kd.R_lt (by (with_reducible repeat (first | apply Kd.R_alloc | apply Kd.R_drewN | apply Kd.R_drew)); exact HO_9.out))) (Kd.R_lt (by (with_reducible repeat (first | apply Kd.R_alloc | apply Kd.R_drewN | apply Kd.R_drew)); exact HO330.out))) (Kd.R_lt (by (with_reducible repeat (first | apply Kd.R_alloc | apply Kd.R_drewN | apply Kd.R_drew)); exact HO334.out))) (Kd.R_lt (by (with_reducible repeat (first | apply Kd.R_alloc | apply Kd.R_drewN | apply Kd.R_drew)); exact HO338.out))) (below_size (by repeat (first | (with_reducible first | exact HB.out | apply below_alloc | apply pw_below_drewN | apply below_drew1) | exact HB.out)))); have n6_ := Aside0.mk (below_step (by repeat (first | (with_reducible first | exact HB.out | apply below_alloc | apply pw_below_drewN | apply below_drew1) | exact HB.out)) hb); clear HO_8; clear HO_9; clear HO330; clear HO334; clear HO338; clear HB; have HO_8 := n0_; have HO_9 := n1_; have HO330 := n2_; have HO334 := n3_; have HO338 := n4_; have HO342 := n5_; have HB := n6_; clear n0_ n1_ n2_ n3_ n4_ n5_ n6_; (try clear hb); (try clear hb2); (try clear hk); (try clear hi); (try clear ho0); obtain ⟨Ao39, co39, eo39⟩ := Kd.R_slice HO330.out; subst eo39; obtain ⟨Ao40, co40, eo40⟩ := Kd.R_slice HO334.out; subst eo40) | (go_at_call 25; (with_reducible refine (payrollref35_Same.calls k1 _ _ t327 _ _ t331 true _ ?side1 ?side2 ?side3 ?side4 A27.out).mono ?_); (case side1 => repeat (first | exact (Kd.R_reads' HO330.out).2.2 | (with_reducible refine Kd.C_alloc ?_ _) | (with_reducible refine Kd.C_drewN ?_ _) | (with_reducible refine Kd.C_drew ?_))); (case side2 => exact (Kd.R_reads' HO330.out).2.1); (case side3 => repeat (first | exact (Kd.R_reads' HO334.out).2.2 | (with_reducible refine Kd.C_alloc ?_ _) | (with_reducible refine Kd.C_drewN ?_ _) | (with_reducible refine Kd.C_drew ?_))); (case side4 => exact (Kd.R_reads' HO334.out).2.1); rintro e w' ⟨rfl, ⟨nd, rfl⟩⟩; obtain ⟨Ao41, co41, eo41⟩ := Kd.R_slice HO338.out; subst eo41; obtain ⟨Ao42, co42, eo42⟩ := Kd.R_slice HO342.out; subst eo42) | (go_at_call 25; (with_reducible refine (payrollref35_Same.calls k1 _ _ t335 _ _ t339 true _ ?side1 ?side2 ?side3 ?side4 A30.out).mono ?_); (case side1 => repeat (first | exact (Kd.R_reads' HO338.out).2.2 | (with_reducible refine Kd.C_alloc ?_ _) | (with_reducible refine Kd.C_drewN ?_ _) | (with_reducible refine Kd.C_drew ?_))); (case side2 => exact (Kd.R_reads' HO338.out).2.1); (case side3 => repeat (first | exact (Kd.R_reads' HO342.out).2.2 | (with_reducible refine Kd.C_alloc ?_ _) | (with_reducible refine Kd.C_drewN ?_ _) | (with_reducible refine Kd.C_drew ?_))); (case side4 => exact (Kd.R_reads' HO342.out).2.1); rintro e w' ⟨rfl, ⟨nd, rfl⟩⟩) | (go_at_call 16; (with_reducible refine (payrolllaw35_awake.calls k1  t345 _ A32.out).mono ?_); rintro e w43 ⟨rfl, hb⟩; have n0_ := Aside0.mk (Kd.R_below (by (with_reducible repeat (first | apply Kd.R_alloc | apply Kd.R_drewN | apply Kd.R_drew)); exact HO_8.out) hb); have n1_ := Aside0.mk (Kd.R_below (by (with_reducible repeat (first | apply Kd.R_alloc | apply Kd.R_drewN | apply Kd.R_drew)); exact HO_9.out) hb); have n2_ := Aside0.mk (Kd.R_below (by (with_reducible repeat (first | apply Kd.R_alloc | apply Kd.R_drewN | apply Kd.R_drew)); exact HO330.out) hb); have n3_ := Aside0.mk (Kd.R_below (by (with_reducible repeat (first | apply Kd.R_alloc | apply Kd.R_drewN | apply Kd.R_drew)); exact HO334.out) hb); have n4_ := Aside0.mk (Kd.R_below (by (with_reducible repeat (first | apply Kd.R_alloc | apply Kd.R_drewN | apply Kd.R_drew)); exact HO338.out) hb); have n5_ := Aside0.mk (Kd.R_below (by (with_reducible repeat (first | apply Kd.R_alloc | apply Kd.R_drewN | apply Kd.R_drew)); exact HO342.out) hb); have n6_ := Aside0.mk (below_step (by repeat (first | (with_reducible first | exact HB.out | apply below_alloc | apply pw_below_drewN | apply below_drew1) | exact HB.out)) hb); clear HO_8; clear HO_9; clear HO330; clear HO334; clear HO338; clear HO342; clear HB; have HO_8 := n0_; have HO_9 := n1_; have HO330 := n2_; have HO334 := n3_; have HO338 := n4_; have HO342 := n5_; have HB := n6_; clear n0_ n1_ n2_ n3_ n4_ n5_ n6_; (try clear hb); (try clear hb2); (try clear hk); (try clear hi)))
                    go_ret
                    exact ⟨by first | rfl | (simp [errW_none, errW_some] <;> rfl) | (simp [*, errW_none, errW_some] <;> rfl), by repeat (first | (with_reducible first | exact HB.out | apply below_alloc | apply pw_below_drewN | apply below_drew1) | exact HB.out)⟩
                  · replace c31 := Bool.eq_false_iff.mpr c31
                    subst c31
                    have H1 : (none) = some r := by rw [if_neg (show ¬ (false = true) by decide)] at H; exact H
                    clear H
                    have H := H1
                    clear H1
                    exact absurd H (by simp)
                · rw [if_neg c29] at H
                  exact absurd H (by simp)
              · replace c28 := Bool.eq_false_iff.mpr c28
                subst c28
                have H1 : (none) = some r := by rw [if_neg (show ¬ (false = true) by decide)] at H; exact H
                clear H
                have H := H1
                clear H1
                exact absurd H (by simp)
            · rw [if_neg c26] at H
              exact absurd H (by simp)
    · replace c7 := Bool.eq_false_iff.mpr c7
      subst c7
      have H1 : ((payrolllaw35_awake.f k).bind fun t346 => (some t346)) = some r := by rw [if_neg (show ¬ (false = true) by decide)] at H; exact H
      clear H
      have H := H1
      clear H1
      replace H := Option.bind_eq_some_iff.mp H
      obtain ⟨t346, A440, H⟩ := H
      replace H : (some t346) = some r := H
      have A44 := Aside0.mk A440
      clear A440
      obtain rfl := Option.some.inj H
      go_enter Try.func5, Try.ntmps5
      go_wp2_with (first | ((with_reducible refine gate_callee (f := 17) rfl ?_); refine goesL_ (some 21) rfl rfl Try.func17 (by kernel_rfl) rfl #[.slice A1 l1.length c1] rfl (by (try simp only [List.map_toArray, List.map_cons, List.map_nil]); first | done | rfl | (simp only [List.length_drop, List.length_take]; rfl)) ?_; (with_reducible refine (payrolllaw35_short.calls k _ _ l1 true _ ?side1 ?side2 A4.out).mono ?_); (case side1 => repeat (first | exact HR1.out | (with_reducible refine Kd.C_alloc ?_ _) | (with_reducible refine Kd.C_drewN ?_ _) | (with_reducible refine Kd.C_drew ?_))); (case side2 => exact HC1.out); rintro e w' ⟨rfl, ⟨nd, rfl⟩⟩; refine ⟨_, rfl, ?_⟩) | (go_at_call 17; (with_reducible refine (payrolllaw35_short.calls k _ _ l2 false _ ?side1 ?side2 A6.out).mono ?_); (case side1 => repeat (first | exact HR2.out | (with_reducible refine Kd.C_alloc ?_ _) | (with_reducible refine Kd.C_drewN ?_ _) | (with_reducible refine Kd.C_drew ?_))); (case side2 => exact HC2.out); rintro e w' ⟨rfl, ⟨nd, rfl⟩⟩) | ((with_reducible refine gate_callee (f := 16) rfl ?_); refine goesL_ (some 28) rfl rfl Try.func16 (by kernel_rfl) rfl #[] rfl (by (try simp only [List.map_toArray, List.map_cons, List.map_nil]); first | done | rfl | (simp only [List.length_drop, List.length_take]; rfl)) ?_; (with_reducible refine (payrolllaw35_awake.calls k  t346 _ A44.out).mono ?_); rintro e w45 ⟨rfl, hb⟩; refine ⟨_, rfl, ?_⟩; have n0_ := Aside0.mk (below_step (by repeat (first | (with_reducible first | exact HB.out | apply below_alloc | apply pw_below_drewN | apply below_drew1) | exact HB.out)) hb); clear HB; have HB := n0_; clear n0_; (try clear hb); (try clear hb2); (try clear hk); (try clear hi)))
      go_ret
      exact ⟨by first | rfl | (simp [errW_none, errW_some] <;> rfl) | (simp [*, errW_none, errW_some] <;> rfl), by repeat (first | (with_reducible first | exact HB.out | apply below_alloc | apply pw_below_drewN | apply below_drew1) | exact HB.out)⟩
  · replace c5 := Bool.eq_false_iff.mpr c5
    subst c5
    have H1 : ((payrolllaw35_awake.f k).bind fun t347 => (some t347)) = some r := by rw [if_neg (show ¬ (false = true) by decide)] at H; exact H
    clear H
    have H := H1
    clear H1
    replace H := Option.bind_eq_some_iff.mp H
    obtain ⟨t347, A460, H⟩ := H
    replace H : (some t347) = some r := H
    have A46 := Aside0.mk A460
    clear A460
    obtain rfl := Option.some.inj H
    go_enter Try.func5, Try.ntmps5
    go_wp2_with (first | ((with_reducible refine gate_callee (f := 17) rfl ?_); refine goesL_ (some 21) rfl rfl Try.func17 (by kernel_rfl) rfl #[.slice A1 l1.length c1] rfl (by (try simp only [List.map_toArray, List.map_cons, List.map_nil]); first | done | rfl | (simp only [List.length_drop, List.length_take]; rfl)) ?_; (with_reducible refine (payrolllaw35_short.calls k _ _ l1 false _ ?side1 ?side2 A4.out).mono ?_); (case side1 => repeat (first | exact HR1.out | (with_reducible refine Kd.C_alloc ?_ _) | (with_reducible refine Kd.C_drewN ?_ _) | (with_reducible refine Kd.C_drew ?_))); (case side2 => exact HC1.out); rintro e w' ⟨rfl, ⟨nd, rfl⟩⟩; refine ⟨_, rfl, ?_⟩) | ((with_reducible refine gate_callee (f := 16) rfl ?_); refine goesL_ (some 28) rfl rfl Try.func16 (by kernel_rfl) rfl #[] rfl (by (try simp only [List.map_toArray, List.map_cons, List.map_nil]); first | done | rfl | (simp only [List.length_drop, List.length_take]; rfl)) ?_; (with_reducible refine (payrolllaw35_awake.calls k  t347 _ A46.out).mono ?_); rintro e w47 ⟨rfl, hb⟩; refine ⟨_, rfl, ?_⟩; have n0_ := Aside0.mk (below_step (by repeat (first | (with_reducible first | exact HB.out | apply below_alloc | apply pw_below_drewN | apply below_drew1) | exact HB.out)) hb); clear HB; have HB := n0_; clear n0_; (try clear hb); (try clear hb2); (try clear hk); (try clear hi)))
    go_ret
    exact ⟨by first | rfl | (simp [errW_none, errW_some] <;> rfl) | (simp [*, errW_none, errW_some] <;> rfl), by repeat (first | (with_reducible first | exact HB.out | apply below_alloc | apply pw_below_drewN | apply below_drew1) | exact HB.out)⟩

end Go.Proofs.Ytelmnkmpkljboaa.Q
