-- Printed by wip/xprint.py over the translation, with contracts proved by hand among them. Lean checks it.
import Derived.Test.YtfakedchahildaaQx0
import Derived.Test.YtfakedchahildaaQx10
namespace Go.Proofs.Ytfakedchahildaa.Q
open Go.RowKit Go.Proofs.YtfakedchahildaaW.PrintWords Go.Proofs.YtfakedchahildaaW.PrintLast Go.Proofs.YtfakedchahildaaW.PrintMore
attribute [local go_sem] max2_int min2_int max_two min_two max_three min_three max_four min_four   -- for this text's walks alone
set_option linter.unusedVariables false
set_option linter.unusedSimpArgs false

/-! ### paygen_Deck_Payments: function 27 -/
def paygen_Deck_Payments.l0 : Nat → List (S81) → Int → List Int → Int → Option ((List (S81)) × Int)
  | 0, _, _, _, _ => none
  | k + 1, x5, x6, x1000, x1001 => if x6 > 0 then ((paygen_Deck_Pick.f x1000 x1001 (([1, 2, 3, 7, 2147483647] : List Int))).bind fun bt416 => ((paygen_Deck_Small.f x1000 bt416.2).bind fun bt418 => ((paygen_Deck_Pick.f x1000 bt418.2 (([1, 100, wrap64 (1 + bt418.1), 1000000000000] : List Int))).bind fun bt423 => (if x5.length < 8796093022208 then (paygen_Deck_Payments.l0 k (x5 ++ [(⟨bt416.1, bt423.1⟩ : S81)]) (wrap64 (x6 - 1)) x1000 bt423.2) else (none))))) else (some (x5, x1001))
def paygen_Deck_Payments.f (k : Nat) (s0_0 : List Int) (s0_1 : Int) (a1 : Int) : Option ((List (S81)) × Int) := (paygen_Deck_Next.f s0_0 s0_1 (wrap64 (a1 + 1))).bind fun bt411 => (paygen_Deck_Payments.l0 k ([] : List (S81)) bt411.1 s0_0 bt411.2)
theorem paygen_Deck_Payments.mono_l : ∀ k, (∀ y0 y1 y2 y3, LeO (paygen_Deck_Payments.l0 k y0 y1 y2 y3) (paygen_Deck_Payments.l0 (k + 1) y0 y1 y2 y3))
  | 0 => fun _ _ _ _ r h => by simp [paygen_Deck_Payments.l0] at h
  | k + 1 => by
    have ih0 := paygen_Deck_Payments.mono_l k
    · intro y0 y1 y2 y3
      unfold paygen_Deck_Payments.l0
      repeat' first
      | (with_reducible exact ih0 _ _ _ _)
      | (with_reducible exact LeO.refl _)
      | (with_reducible exact LeO.none _)
      | (with_reducible refine LeO.ite ?_ ?_)
      | (with_reducible refine LeO.bind ?_ (fun _ => ?_))
      | exact ih0 _ _ _ _
      | exact LeO.none _
      | refine LeO.ite ?_ ?_
      | refine LeO.bind ?_ (fun _ => ?_)
theorem paygen_Deck_Payments.mono : ∀ a0 a1 a2 k, LeO (paygen_Deck_Payments.f k a0 a1 a2) (paygen_Deck_Payments.f (k + 1) a0 a1 a2) := by
  intro a0 a1 a2 k
  have ih0 := paygen_Deck_Payments.mono_l k
  unfold paygen_Deck_Payments.f
  repeat' first
      | (with_reducible exact ih0 _ _ _ _)
      | (with_reducible exact LeO.refl _)
      | (with_reducible exact LeO.none _)
      | (with_reducible refine LeO.ite ?_ ?_)
      | (with_reducible refine LeO.bind ?_ (fun _ => ?_))
      | exact ih0 _ _ _ _
      | exact LeO.none _
      | refine LeO.ite ?_ ?_
      | refine LeO.bind ?_ (fun _ => ?_)
set_option maxHeartbeats 8000000 in
set_option maxRecDepth 100000 in
theorem paygen_Deck_Payments.calls (k : Nat) (g : Nat) (s0_0 : List Int) (s0_1 : Int) (a1 : Int) (r1 : List (S81)) (r2 : Int) (w0 w : World) (hI : IsS59 w0 w g s0_0 s0_1) (hB : Below w0.heap.size w0 w) (h : paygen_Deck_Payments.f k s0_0 s0_1 a1 = some (r1, r2)) :
    Calls Try.prog 27 #[.pointer (some ⟨g, 0, none⟩), .int .i64 a1] w fun e w' => ∃ v0_ : Value, e = .returned (v0_) ∧ Kd.R k81 81 w' w.heap.size (fun _ => True) v0_ r1 ∧ IsS59 w0 w' g s0_0 r2 ∧ Below w0.heap.size w0 w' ∧ KeepBut w w' g none := by
  have hu81 := Try.underlying81
  have HI0 := Aside0.mk hI
  have HK := Aside0.mk (KeepBut.refl w g none)
  have HL := Aside0.mk hB.size
  clear hI
  have HW0 := Aside0.mk hB.size
  have HB := Aside0.mk hB
  clear hB
  have H : ((paygen_Deck_Next.f s0_0 s0_1 (wrap64 (a1 + 1))).bind fun bt411 => (paygen_Deck_Payments.l0 k ([] : List (S81)) bt411.1 s0_0 bt411.2)) = some (r1, r2) := h
  clear h
  replace H := Option.bind_eq_some_iff.mp H
  obtain ⟨⟨t411, t412⟩, A30, H⟩ := H
  replace H : (paygen_Deck_Payments.l0 k ([] : List (S81)) t411 s0_0 t412) = some (r1, r2) := H
  have A3 := Aside0.mk A30
  clear A30
  have H' := Aside0.mk H
  clear H
  go_enter Try.func27, Try.ntmps27
  go_wp2_with (first | ((with_reducible refine gate_callee (f := 31) rfl ?_); refine goesL_ (some 10) rfl rfl Try.func31 (by kernel_rfl) rfl #[.pointer (some ⟨g, 0, none⟩), .int .i64 (wrap64 (a1 + 1))] rfl (by (try simp only [List.map_toArray, List.map_cons, List.map_nil]); first | done | rfl | (simp only [List.length_drop, List.length_take]; rfl)) ?_; (with_reducible refine (paygen_Deck_Next.calls g s0_0 s0_1 (wrap64 (a1 + 1)) t411 t412 w0 _ ?side1 ?side2 A3.out).mono ?_); (case side1 => repeat (first | (with_reducible first | exact HI0.out | apply IsS59.alloc | apply IsS59.drewN | apply IsS59.drew | apply IsS59.set_1) | exact HI0.out)); (case side2 => repeat (first | (with_reducible first | exact HB.out | apply below_alloc | apply pw_below_drewN | apply below_drew1 | refine below_set ?_ (IsS59.ge HI0.out)) | exact HB.out)); rintro e w4 ⟨rfl, hi, hb, hk⟩; refine ⟨_, rfl, ?_⟩; have n0_ := Aside0.mk (KeepBut.trans (by repeat (first | (with_reducible first | exact HK.out | apply KeepBut.set_ | apply keep_drewN | apply keep_drew | apply keep_alloc) | exact HK.out)) hk (.inl rfl)); have n1_ := Aside0.mk (hb); have n2_ := Aside0.mk (hi); clear HK; clear HB; clear HI0; have HK := n0_; have HB := n1_; have HI0 := n2_; clear n0_ n1_ n2_; (try clear hb); (try clear hb2); (try clear hk); (try clear hi)))
  go_loopg [5, 6] k (fun kq v5 v6 w' => ∃ (x5_1 : List (S81)) (x6_1 : Int) (x1001_1 : Int), v6 = .int .i64 x6_1 ∧ Aside0 (paygen_Deck_Payments.l0 kq x5_1 x6_1 s0_0 x1001_1 = some (r1, r2)) ∧ Aside0 (kq ≤ k) ∧ Aside0 (Kd.R k81 81 w' w.heap.size (fun _ => True) v5 x5_1) ∧ Aside0 (IsS59 w0 w' g s0_0 x1001_1) ∧ Aside0 (KeepBut w w' g none) ∧ Aside0 (Below w0.heap.size w0 w'))
  case atStart => exact ⟨(([] : List (S81))), (t411), (t412), (by first | rfl | (simp; done) | (simp [*]; done)), H', ⟨Nat.le_refl _⟩, ⟨by first | exact Kd.R_nil _ _ _ _ _ | exact Kd.N_nil _ _ _ _ _ | exact Kd.V_nil _ _ _ _ _ | exact Kd.Q_nil _ _ _ _ _ | exact Kd.S_nil _ _ _ _ _⟩, ⟨by repeat (first | (with_reducible first | exact HI0.out | apply IsS59.alloc | apply IsS59.drewN | apply IsS59.drew | apply IsS59.set_1) | exact HI0.out)⟩, ⟨by repeat (first | (with_reducible first | exact HK.out | apply KeepBut.set_ | apply keep_drewN | apply keep_drew | apply keep_alloc) | exact HK.out)⟩, ⟨by repeat (first | (with_reducible first | exact HB.out | apply below_alloc | apply pw_below_drewN | apply below_drew1 | refine below_set ?_ (IsS59.ge HI0.out)) | exact HB.out)⟩⟩
  case round =>
    clear H'
    try clear c2
    try clear p2
    try clear c3
    obtain ⟨x5_1, x6_1, x1001_1, rfl, HA, HK1, HO_5, HI0, HK, HB⟩ := hrel
    cases gk with
    | zero => exact absurd HA.out (by simp [paygen_Deck_Payments.l0])
    | succ k1 =>
      have H := HA.out
      clear HA
      simp only [paygen_Deck_Payments.l0] at H
      by_cases c5 : x6_1 > 0
      · rw [if_pos c5] at H
        have c5b0 : decide (0 < x6_1) = true := decide_eq_true c5
        clear c5
        obtain ⟨y413, hy413⟩ : ∃ y_ : List Int, y_ = (([1, 2, 3, 7, 2147483647] : List Int)) := ⟨_, rfl⟩
        replace H : ((paygen_Deck_Pick.f s0_0 x1001_1 y413).bind fun bt416 => ((paygen_Deck_Small.f s0_0 bt416.2).bind fun bt418 => ((paygen_Deck_Pick.f s0_0 bt418.2 (([1, 100, wrap64 (1 + bt418.1), 1000000000000] : List Int))).bind fun bt423 => (if x5_1.length < 8796093022208 then (paygen_Deck_Payments.l0 k1 (x5_1 ++ [(⟨bt416.1, bt423.1⟩ : S81)]) (wrap64 (x6_1 - 1)) s0_0 bt423.2) else (none))))) = some (r1, r2) := by first | (rw [hy413]; with_reducible exact H) | (have H2_ := (Option.bind_some _ _).symm.trans H; rw [hy413]; with_reducible exact H2_) | (have H2_ := (Option.bind_some _ _).symm.trans H; with_reducible exact H2_) | with_reducible exact H | (rw [hy413]; exact H) | exact H
        have Ny413 := Aside0.mk hy413
        clear hy413
        replace H := Option.bind_eq_some_iff.mp H
        obtain ⟨⟨t416, t417⟩, A60, H⟩ := H
        replace H : ((paygen_Deck_Small.f s0_0 t417).bind fun bt418 => ((paygen_Deck_Pick.f s0_0 bt418.2 (([1, 100, wrap64 (1 + bt418.1), 1000000000000] : List Int))).bind fun bt423 => (if x5_1.length < 8796093022208 then (paygen_Deck_Payments.l0 k1 (x5_1 ++ [(⟨t416, bt423.1⟩ : S81)]) (wrap64 (x6_1 - 1)) s0_0 bt423.2) else (none)))) = some (r1, r2) := H
        have A6 := Aside0.mk A60
        clear A60
        replace H := Option.bind_eq_some_iff.mp H
        obtain ⟨⟨t418, t419⟩, A70, H⟩ := H
        replace H : ((paygen_Deck_Pick.f s0_0 t419 (([1, 100, wrap64 (1 + t418), 1000000000000] : List Int))).bind fun bt423 => (if x5_1.length < 8796093022208 then (paygen_Deck_Payments.l0 k1 (x5_1 ++ [(⟨t416, bt423.1⟩ : S81)]) (wrap64 (x6_1 - 1)) s0_0 bt423.2) else (none))) = some (r1, r2) := H
        have A7 := Aside0.mk A70
        clear A70
        obtain ⟨y420, hy420⟩ : ∃ y_ : List Int, y_ = (([1, 100, wrap64 (1 + t418), 1000000000000] : List Int)) := ⟨_, rfl⟩
        replace H : ((paygen_Deck_Pick.f s0_0 t419 y420).bind fun bt423 => (if x5_1.length < 8796093022208 then (paygen_Deck_Payments.l0 k1 (x5_1 ++ [(⟨t416, bt423.1⟩ : S81)]) (wrap64 (x6_1 - 1)) s0_0 bt423.2) else (none))) = some (r1, r2) := by first | (rw [hy420]; with_reducible exact H) | (have H2_ := (Option.bind_some _ _).symm.trans H; rw [hy420]; with_reducible exact H2_) | (have H2_ := (Option.bind_some _ _).symm.trans H; with_reducible exact H2_) | with_reducible exact H | (rw [hy420]; exact H) | exact H
        have Ny420 := Aside0.mk hy420
        clear hy420
        replace H := Option.bind_eq_some_iff.mp H
        obtain ⟨⟨t423, t424⟩, A80, H⟩ := H
        replace H : (if x5_1.length < 8796093022208 then (paygen_Deck_Payments.l0 k1 (x5_1 ++ [(⟨t416, t423⟩ : S81)]) (wrap64 (x6_1 - 1)) s0_0 t424) else (none)) = some (r1, r2) := H
        have A8 := Aside0.mk A80
        clear A80
        by_cases c9 : x5_1.length < 8796093022208
        · rw [if_pos c9] at H
          have LMc9 := Aside0.mk c9
          clear c9
          obtain ⟨y425, hy425⟩ : ∃ y_ : List (S81), y_ = (x5_1 ++ [(⟨t416, t423⟩ : S81)]) := ⟨_, rfl⟩
          replace H : (paygen_Deck_Payments.l0 k1 y425 (wrap64 (x6_1 - 1)) s0_0 t424) = some (r1, r2) := by first | (rw [hy425]; with_reducible exact H) | (have H2_ := (Option.bind_some _ _).symm.trans H; rw [hy425]; with_reducible exact H2_) | (have H2_ := (Option.bind_some _ _).symm.trans H; with_reducible exact H2_) | with_reducible exact H | (rw [hy425]; exact H) | exact H
          have Ny425 := Aside0.mk hy425
          clear hy425
          have H' := Aside0.mk H
          clear H
          go_wp2_with (first | ((with_reducible refine gate_dst (N := 17) rfl ?_); refine Kd.R_lit (Kd.int .i64) _ 3 ?hg (N := 17) ?hd (xs := ([1, 2, 3, 7, 2147483647] : List Int)) (inner := [.int .i64 1, .int .i64 2, .int .i64 3, .int .i64 7, .int .i64 2147483647]) (ok := fun _ => True) (okp := fun _ => True) ?hr ?hp (fun _ hk => hk) trivial (Below.refl _ _) (Nat.le_refl _) (by simp) ?_; (case hd => rfl); (case hg => rfl); (case hr => first | (go_simp; done) | (go_simp; rfl)); (case hp => exact (Reps.one (show Kd.M (Kd.int .i64) _ _ _ 1 [.int .i64 1] from rfl) (Reps.one (show Kd.M (Kd.int .i64) _ _ _ 2 [.int .i64 2] from rfl) (Reps.one (show Kd.M (Kd.int .i64) _ _ _ 3 [.int .i64 3] from rfl) (Reps.one (show Kd.M (Kd.int .i64) _ _ _ 7 [.int .i64 7] from rfl) (Reps.one (show Kd.M (Kd.int .i64) _ _ _ 2147483647 [.int .i64 2147483647] from rfl) (Reps.none _ _))))))); intro v414 w10 ho11 hb hg_ hnew_; clear hg_ hnew_; (first | rw [← Ny413.out] at ho11 | (simp only [Int.reduceToNat] at ho11; rw [← Ny413.out] at ho11)); have n0_ := Aside0.mk (Kd.R_below (by (with_reducible repeat (first | apply Kd.R_alloc | apply Kd.R_drewN | apply Kd.R_drew)); exact HO_5.out) hb); have n1_ := Aside0.mk (Kd.R_lower ho11 (keep_size (w := w) (g := g) (row := none) (by repeat (first | (with_reducible first | exact HK.out | apply KeepBut.set_ | apply keep_drewN | apply keep_drew | apply keep_alloc) | exact HK.out)))); have n2_ := Aside0.mk (IsS59.below (by repeat (first | (with_reducible first | exact HI0.out | apply IsS59.alloc | apply IsS59.drewN | apply IsS59.drew | apply IsS59.set_1) | exact HI0.out)) hb); have n3_ := Aside0.mk (KeepBut.trans (by repeat (first | (with_reducible first | exact HK.out | apply KeepBut.set_ | apply keep_drewN | apply keep_drew | apply keep_alloc) | exact HK.out)) (KeepBut.of_below hb g none) (.inl rfl)); have n4_ := Aside0.mk (below_step (by repeat (first | (with_reducible first | exact HB.out | apply below_alloc | apply pw_below_drewN | apply below_drew1 | refine below_set ?_ (IsS59.ge HI0.out)) | exact HB.out)) hb); clear HO_5; clear HI0; clear HK; clear HB; have HO_5 := n0_; have HO415 := n1_; have HI0 := n2_; have HK := n3_; have HB := n4_; clear n0_ n1_ n2_ n3_ n4_; clear hb ho11; obtain ⟨Ao12, co12, eo12⟩ := Kd.R_slice HO415.out; subst eo12) | ((with_reducible refine gate_callee (f := 28) rfl ?_); refine goesL_ (some 18) rfl rfl Try.func28 (by kernel_rfl) rfl #[.pointer (some ⟨g, 0, none⟩), .slice Ao12 y413.length co12] rfl (by (try simp only [List.map_toArray, List.map_cons, List.map_nil]); first | done | rfl | (simp only [List.length_drop, List.length_take]; rfl)) ?_; (with_reducible refine (paygen_Deck_Pick.calls g s0_0 x1001_1 _ _ y413 t416 t417 w0 _ ?side1 ?side2 ?side3 ?side4 ?side5 A6.out).mono ?_); (case side1 => repeat (first | (with_reducible first | exact HI0.out | apply IsS59.alloc | apply IsS59.drewN | apply IsS59.drew | apply IsS59.set_1) | exact HI0.out)); (case side2 => repeat (first | (with_reducible first | exact HB.out | apply below_alloc | apply pw_below_drewN | apply below_drew1 | refine below_set ?_ (IsS59.ge HI0.out)) | exact HB.out)); (case side3 => repeat (first | exact (Kd.R_reads' HO415.out).2.2 | (with_reducible refine Kd.C_alloc ?_ _) | (with_reducible refine Kd.C_drewN ?_ _) | (with_reducible refine Kd.C_drew ?_))); (case side4 => exact (Kd.R_reads' HO415.out).2.1); (case side5 => exact far_slice (IsS59.own_ne HI0.out HO415.out (by decide))); rintro e w13 ⟨rfl, hi, hb, hk⟩; refine ⟨_, rfl, ?_⟩; have n0_ := Aside0.mk (Kd.R_mono (Kd.R_keep (IsS59.apart (show IsS59 w0 _ g s0_0 x1001_1 from by repeat (first | (with_reducible first | exact HI0.out | apply IsS59.alloc | apply IsS59.drewN | apply IsS59.drew | apply IsS59.set_1) | exact HI0.out)) (by (with_reducible repeat (first | apply Kd.R_alloc | apply Kd.R_drewN | apply Kd.R_drew)); exact HO_5.out) (by decide)) hk (fun _ h => h.2)) (fun _ h => h.1)); have n1_ := Aside0.mk (Kd.R_mono (Kd.R_keep (IsS59.apart (show IsS59 w0 _ g s0_0 x1001_1 from by repeat (first | (with_reducible first | exact HI0.out | apply IsS59.alloc | apply IsS59.drewN | apply IsS59.drew | apply IsS59.set_1) | exact HI0.out)) (by (with_reducible repeat (first | apply Kd.R_alloc | apply Kd.R_drewN | apply Kd.R_drew)); exact HO415.out) (by decide)) hk (fun _ h => h.2)) (fun _ h => h.1)); have n2_ := Aside0.mk (KeepBut.trans (by repeat (first | (with_reducible first | exact HK.out | apply KeepBut.set_ | apply keep_drewN | apply keep_drew | apply keep_alloc) | exact HK.out)) hk (.inl rfl)); have n3_ := Aside0.mk (hb); have n4_ := Aside0.mk (hi); clear HO_5; clear HO415; clear HK; clear HB; clear HI0; have HO_5 := n0_; have HO415 := n1_; have HK := n2_; have HB := n3_; have HI0 := n4_; clear n0_ n1_ n2_ n3_ n4_; (try clear hb); (try clear hb2); (try clear hk); (try clear hi)) | ((with_reducible refine gate_callee (f := 46) rfl ?_); refine goesL_ (some 21) rfl rfl Try.func46 (by kernel_rfl) rfl #[.pointer (some ⟨g, 0, none⟩)] rfl (by (try simp only [List.map_toArray, List.map_cons, List.map_nil]); first | done | rfl | (simp only [List.length_drop, List.length_take]; rfl)) ?_; (with_reducible refine (paygen_Deck_Small.calls g s0_0 t417 t418 t419 w0 _ ?side1 ?side2 A7.out).mono ?_); (case side1 => repeat (first | (with_reducible first | exact HI0.out | apply IsS59.alloc | apply IsS59.drewN | apply IsS59.drew | apply IsS59.set_1) | exact HI0.out)); (case side2 => repeat (first | (with_reducible first | exact HB.out | apply below_alloc | apply pw_below_drewN | apply below_drew1 | refine below_set ?_ (IsS59.ge HI0.out)) | exact HB.out)); rintro e w14 ⟨rfl, hi, hb, hk⟩; refine ⟨_, rfl, ?_⟩; have n0_ := Aside0.mk (Kd.R_mono (Kd.R_keep (IsS59.apart (show IsS59 w0 _ g s0_0 t417 from by repeat (first | (with_reducible first | exact HI0.out | apply IsS59.alloc | apply IsS59.drewN | apply IsS59.drew | apply IsS59.set_1) | exact HI0.out)) (by (with_reducible repeat (first | apply Kd.R_alloc | apply Kd.R_drewN | apply Kd.R_drew)); exact HO_5.out) (by decide)) hk (fun _ h => h.2)) (fun _ h => h.1)); have n1_ := Aside0.mk (Kd.R_mono (Kd.R_keep (IsS59.apart (show IsS59 w0 _ g s0_0 t417 from by repeat (first | (with_reducible first | exact HI0.out | apply IsS59.alloc | apply IsS59.drewN | apply IsS59.drew | apply IsS59.set_1) | exact HI0.out)) (by (with_reducible repeat (first | apply Kd.R_alloc | apply Kd.R_drewN | apply Kd.R_drew)); exact HO415.out) (by decide)) hk (fun _ h => h.2)) (fun _ h => h.1)); have n2_ := Aside0.mk (KeepBut.trans (by repeat (first | (with_reducible first | exact HK.out | apply KeepBut.set_ | apply keep_drewN | apply keep_drew | apply keep_alloc) | exact HK.out)) hk (.inl rfl)); have n3_ := Aside0.mk (hb); have n4_ := Aside0.mk (hi); clear HO_5; clear HO415; clear HK; clear HB; clear HI0; have HO_5 := n0_; have HO415 := n1_; have HK := n2_; have HB := n3_; have HI0 := n4_; clear n0_ n1_ n2_ n3_ n4_; (try clear hb); (try clear hb2); (try clear hk); (try clear hi)) | ((with_reducible refine gate_dst (N := 23) rfl ?_); refine Kd.R_lit (Kd.int .i64) _ 3 ?hg (N := 23) ?hd (xs := ([1, 100, wrap64 (1 + t418), 1000000000000] : List Int)) (inner := [.int .i64 1, .int .i64 100, .int .i64 (wrap64 (1 + t418)), .int .i64 1000000000000]) (ok := fun _ => True) (okp := fun _ => True) ?hr ?hp (fun _ hk => hk) trivial (Below.refl _ _) (Nat.le_refl _) (by simp) ?_; (case hd => rfl); (case hg => rfl); (case hr => first | (go_simp; done) | (go_simp; rfl)); (case hp => exact (Reps.one (show Kd.M (Kd.int .i64) _ _ _ 1 [.int .i64 1] from rfl) (Reps.one (show Kd.M (Kd.int .i64) _ _ _ 100 [.int .i64 100] from rfl) (Reps.one (show Kd.M (Kd.int .i64) _ _ _ (wrap64 (1 + t418)) [.int .i64 (wrap64 (1 + t418))] from rfl) (Reps.one (show Kd.M (Kd.int .i64) _ _ _ 1000000000000 [.int .i64 1000000000000] from rfl) (Reps.none _ _)))))); intro v421 w15 ho16 hb hg_ hnew_; clear hg_ hnew_; (first | rw [← Ny420.out] at ho16 | (simp only [Int.reduceToNat] at ho16; rw [← Ny420.out] at ho16)); have n0_ := Aside0.mk (Kd.R_below (by (with_reducible repeat (first | apply Kd.R_alloc | apply Kd.R_drewN | apply Kd.R_drew)); exact HO_5.out) hb); have n1_ := Aside0.mk (Kd.R_elder' (by (with_reducible repeat (first | apply Kd.R_alloc | apply Kd.R_drewN | apply Kd.R_drew)); exact HO415.out) (Kd.R_base ho16) hb); have n2_ := Aside0.mk (Kd.R_lower (Kd.R_new' ho16 (Kd.R_lt (by (with_reducible repeat (first | apply Kd.R_alloc | apply Kd.R_drewN | apply Kd.R_drew)); exact HO415.out))) (keep_size (w := w) (g := g) (row := none) (by repeat (first | (with_reducible first | exact HK.out | apply KeepBut.set_ | apply keep_drewN | apply keep_drew | apply keep_alloc) | exact HK.out)))); have n3_ := Aside0.mk (IsS59.below (by repeat (first | (with_reducible first | exact HI0.out | apply IsS59.alloc | apply IsS59.drewN | apply IsS59.drew | apply IsS59.set_1) | exact HI0.out)) hb); have n4_ := Aside0.mk (KeepBut.trans (by repeat (first | (with_reducible first | exact HK.out | apply KeepBut.set_ | apply keep_drewN | apply keep_drew | apply keep_alloc) | exact HK.out)) (KeepBut.of_below hb g none) (.inl rfl)); have n5_ := Aside0.mk (below_step (by repeat (first | (with_reducible first | exact HB.out | apply below_alloc | apply pw_below_drewN | apply below_drew1 | refine below_set ?_ (IsS59.ge HI0.out)) | exact HB.out)) hb); clear HO_5; clear HO415; clear HI0; clear HK; clear HB; have HO_5 := n0_; have HO415 := n1_; have HO422 := n2_; have HI0 := n3_; have HK := n4_; have HB := n5_; clear n0_ n1_ n2_ n3_ n4_ n5_; clear hb ho16; obtain ⟨Ao17, co17, eo17⟩ := Kd.R_slice HO422.out; subst eo17) | ((with_reducible refine gate_callee (f := 28) rfl ?_); refine goesL_ (some 24) rfl rfl Try.func28 (by kernel_rfl) rfl #[.pointer (some ⟨g, 0, none⟩), .slice Ao17 y420.length co17] rfl (by (try simp only [List.map_toArray, List.map_cons, List.map_nil]); first | done | rfl | (simp only [List.length_drop, List.length_take]; rfl)) ?_; (with_reducible refine (paygen_Deck_Pick.calls g s0_0 t419 _ _ y420 t423 t424 w0 _ ?side1 ?side2 ?side3 ?side4 ?side5 A8.out).mono ?_); (case side1 => repeat (first | (with_reducible first | exact HI0.out | apply IsS59.alloc | apply IsS59.drewN | apply IsS59.drew | apply IsS59.set_1) | exact HI0.out)); (case side2 => repeat (first | (with_reducible first | exact HB.out | apply below_alloc | apply pw_below_drewN | apply below_drew1 | refine below_set ?_ (IsS59.ge HI0.out)) | exact HB.out)); (case side3 => repeat (first | exact (Kd.R_reads' HO422.out).2.2 | (with_reducible refine Kd.C_alloc ?_ _) | (with_reducible refine Kd.C_drewN ?_ _) | (with_reducible refine Kd.C_drew ?_))); (case side4 => exact (Kd.R_reads' HO422.out).2.1); (case side5 => exact far_slice (IsS59.own_ne HI0.out HO422.out (by decide))); rintro e w18 ⟨rfl, hi, hb, hk⟩; refine ⟨_, rfl, ?_⟩; have n0_ := Aside0.mk (Kd.R_mono (Kd.R_keep (IsS59.apart (show IsS59 w0 _ g s0_0 t419 from by repeat (first | (with_reducible first | exact HI0.out | apply IsS59.alloc | apply IsS59.drewN | apply IsS59.drew | apply IsS59.set_1) | exact HI0.out)) (by (with_reducible repeat (first | apply Kd.R_alloc | apply Kd.R_drewN | apply Kd.R_drew)); exact HO_5.out) (by decide)) hk (fun _ h => h.2)) (fun _ h => h.1)); have n1_ := Aside0.mk (Kd.R_mono (Kd.R_keep (IsS59.apart (show IsS59 w0 _ g s0_0 t419 from by repeat (first | (with_reducible first | exact HI0.out | apply IsS59.alloc | apply IsS59.drewN | apply IsS59.drew | apply IsS59.set_1) | exact HI0.out)) (by (with_reducible repeat (first | apply Kd.R_alloc | apply Kd.R_drewN | apply Kd.R_drew)); exact HO415.out) (by decide)) hk (fun _ h => h.2)) (fun _ h => h.1)); have n2_ := Aside0.mk (Kd.R_mono (Kd.R_keep (IsS59.apart (show IsS59 w0 _ g s0_0 t419 from by repeat (first | (with_reducible first | exact HI0.out | apply IsS59.alloc | apply IsS59.drewN | apply IsS59.drew | apply IsS59.set_1) | exact HI0.out)) (by (with_reducible repeat (first | apply Kd.R_alloc | apply Kd.R_drewN | apply Kd.R_drew)); exact HO422.out) (by decide)) hk (fun _ h => h.2)) (fun _ h => h.1)); have n3_ := Aside0.mk (KeepBut.trans (by repeat (first | (with_reducible first | exact HK.out | apply KeepBut.set_ | apply keep_drewN | apply keep_drew | apply keep_alloc) | exact HK.out)) hk (.inl rfl)); have n4_ := Aside0.mk (hb); have n5_ := Aside0.mk (hi); clear HO_5; clear HO415; clear HO422; clear HK; clear HB; clear HI0; have HO_5 := n0_; have HO415 := n1_; have HO422 := n2_; have HK := n3_; have HB := n4_; have HI0 := n5_; clear n0_ n1_ n2_ n3_ n4_ n5_; (try clear hb); (try clear hb2); (try clear hk); (try clear hi)) | ((with_reducible refine gate_builtin (b := .append) (xs := #[.tmp 15, .tmp 26]) rfl ?_); at_builtin; refine Kd.R_append k81 w.heap.size rfl (.tmp 15) (.tmp 26) 53 81 (.agg #[(.int .i64 0), (.int .i64 0)]) 16 rfl Try.underlying53 info81 rfl (by decide) (by omega) u5 x5_1 (⟨t416, t423⟩ : S81) [.int .i64 t416, .int .i64 t423] (fun _ => True) (fun _ => False) rfl rfl ?aP (fun _ hk => hk.elim) ?aF ?aO (Below.refl _ _) ?aS ?aL ?_; (case aP => exact k81_mkM _ _ _ (⟨t416, t423⟩ : S81)); (case aF => exact (fun _ _ => trivial)); (case aO => exact (by (with_reducible repeat (first | apply Kd.R_alloc | apply Kd.R_drewN | apply Kd.R_drew)); exact HO_5.out)); (case aS => exact (keep_size (w := w) (g := g) (row := none) (by repeat (first | (with_reducible first | exact HK.out | apply KeepBut.set_ | apply keep_drewN | apply keep_drew | apply keep_alloc) | exact HK.out)))); (case aL => have := LMc9.out; omega); intro v426 w19 ho hb hg hat; rw [← Ny425.out] at ho; have n0_ := Aside0.mk (IsS59.grown (by repeat (first | (with_reducible first | exact HI0.out | apply IsS59.alloc | apply IsS59.drewN | apply IsS59.drew | apply IsS59.set_1) | exact HI0.out)) hg (IsS59.own_ne HI0.out HO_5.out (by decide))); have n1_ := Aside0.mk (Kd.R_over' (by (with_reducible repeat (first | apply Kd.R_alloc | apply Kd.R_drewN | apply Kd.R_drew)); exact HO415.out) (Kd.R_typed (by (with_reducible repeat (first | apply Kd.R_alloc | apply Kd.R_drewN | apply Kd.R_drew)); exact HO_5.out)) (by decide) hg); have n2_ := Aside0.mk (Kd.R_over' (by (with_reducible repeat (first | apply Kd.R_alloc | apply Kd.R_drewN | apply Kd.R_drew)); exact HO422.out) (Kd.R_typed (by (with_reducible repeat (first | apply Kd.R_alloc | apply Kd.R_drewN | apply Kd.R_drew)); exact HO_5.out)) (by decide) hg); have n3_ := Aside0.mk (below_weaken (by repeat (first | (with_reducible first | exact HB.out | apply below_alloc | apply pw_below_drewN | apply below_drew1 | refine below_set ?_ (IsS59.ge HI0.out)) | exact HB.out)) HL.out hb); have n4_ := Aside0.mk (KeepBut.trans (by repeat (first | (with_reducible first | exact HK.out | apply KeepBut.set_ | apply keep_drewN | apply keep_drew | apply keep_alloc) | exact HK.out)) (KeepBut.of_grown hg g) (Kd.R_base2 HO_5.out)); have n5_ := Aside0.mk (ho); clear HI0; clear HO415; clear HO422; clear HB; clear HK; clear HO_5; have HI0 := n0_; have HO415 := n1_; have HO422 := n2_; have HB := n3_; have HK := n4_; have HO427 := n5_; clear n0_ n1_ n2_ n3_ n4_ n5_; clear ho hb hg hat))
          go_roundg k1
          case measure => have := HK1.out; omega
          case rel => exact ⟨(y425), (wrap64 (x6_1 - 1)), (t424), (by first | rfl | (simp; done) | (simp [*]; done)), H', ⟨by have := HK1.out; omega⟩, ⟨by (with_reducible repeat (first | apply Kd.R_alloc | apply Kd.R_drewN | apply Kd.R_drew)); exact HO427.out⟩, ⟨by repeat (first | (with_reducible first | exact HI0.out | apply IsS59.alloc | apply IsS59.drewN | apply IsS59.drew | apply IsS59.set_1) | exact HI0.out)⟩, ⟨by repeat (first | (with_reducible first | exact HK.out | apply KeepBut.set_ | apply keep_drewN | apply keep_drew | apply keep_alloc) | exact HK.out)⟩, ⟨by repeat (first | (with_reducible first | exact HB.out | apply below_alloc | apply pw_below_drewN | apply below_drew1 | refine below_set ?_ (IsS59.ge HI0.out)) | exact HB.out)⟩⟩
        · rw [if_neg c9] at H
          exact absurd H (by simp)
      · rw [if_neg c5] at H
        have c5b0 : decide (0 < x6_1) = false := decide_eq_false c5
        clear c5
        simp only [Option.some.injEq, Prod.mk.injEq] at H
        obtain ⟨rfl, rfl⟩ := H
        go_wp2
        go_ret
        exact ⟨_, by first | rfl | (simp [errW_none, errW_some] <;> rfl) | (simp [*, errW_none, errW_some] <;> rfl), by (with_reducible repeat (first | apply Kd.R_alloc | apply Kd.R_drewN | apply Kd.R_drew)); exact HO_5.out, by repeat (first | (with_reducible first | exact HI0.out | apply IsS59.alloc | apply IsS59.drewN | apply IsS59.drew | apply IsS59.set_1) | exact HI0.out), by repeat (first | (with_reducible first | exact HB.out | apply below_alloc | apply pw_below_drewN | apply below_drew1 | refine below_set ?_ (IsS59.ge HI0.out)) | exact HB.out), by repeat (first | (with_reducible first | exact HK.out | apply KeepBut.set_ | apply keep_drewN | apply keep_drew | apply keep_alloc) | exact HK.out)⟩

/-! ### control_Of: function 48 -/
def control_Of.l0 : Nat → List (S81) → Int → Int → Int → Int → Int → Option (Int × Int × Int × Int)
  | 0, _, _, _, _, _, _ => none
  | k + 1, x11, x12, x13, x430000, x430001, x430002 => if x13 < x12 then (if 0 ≤ x13 then (if x13 < (x11.length : Int) then (if ((rd_T81 x11 x13).f0) < 1 then (some (0, 0, 0, 2)) else (if ((rd_T81 x11 x13).f0) > 2147483647 then (some (0, 0, 0, 2)) else (if ((rd_T81 x11 x13).f1) < 1 then (some (0, 0, 0, 2)) else (if ((rd_T81 x11 x13).f1) > 1000000000000 then (some (0, 0, 0, 2)) else (control_Of.l0 k x11 x12 (wrap64 (x13 + 1)) (wrap64 (x430000 + 1)) (wrap64 (x430001 + ((rd_T81 x11 x13).f1))) (wrap64 (x430002 + ((rd_T81 x11 x13).f0)))))))) else (none)) else (none)) else (some (x430000, x430001, x430002, 0))
def control_Of.f (k : Nat) (l0 : List (S81)) : Option (Int × Int × Int × Int) := if (l0.length : Int) > 4096 then (some (0, 0, 0, 3)) else (control_Of.l0 k l0 (l0.length : Int) 0 0 0 0)
theorem control_Of.mono_l : ∀ k, (∀ y0 y1 y2 y3 y4 y5, LeO (control_Of.l0 k y0 y1 y2 y3 y4 y5) (control_Of.l0 (k + 1) y0 y1 y2 y3 y4 y5))
  | 0 => fun _ _ _ _ _ _ r h => by simp [control_Of.l0] at h
  | k + 1 => by
    have ih0 := control_Of.mono_l k
    · intro y0 y1 y2 y3 y4 y5
      unfold control_Of.l0
      repeat' first
      | (with_reducible exact ih0 _ _ _ _ _ _)
      | (with_reducible exact LeO.refl _)
      | (with_reducible exact LeO.none _)
      | (with_reducible refine LeO.ite ?_ ?_)
      | (with_reducible refine LeO.bind ?_ (fun _ => ?_))
      | exact ih0 _ _ _ _ _ _
      | exact LeO.none _
      | refine LeO.ite ?_ ?_
      | refine LeO.bind ?_ (fun _ => ?_)
theorem control_Of.mono : ∀ a0 k, LeO (control_Of.f k a0) (control_Of.f (k + 1) a0) := by
  intro a0 k
  have ih0 := control_Of.mono_l k
  unfold control_Of.f
  repeat' first
      | (with_reducible exact ih0 _ _ _ _ _ _)
      | (with_reducible exact LeO.refl _)
      | (with_reducible exact LeO.none _)
      | (with_reducible refine LeO.ite ?_ ?_)
      | (with_reducible refine LeO.bind ?_ (fun _ => ?_))
      | exact ih0 _ _ _ _ _ _
      | exact LeO.none _
      | refine LeO.ite ?_ ?_
      | refine LeO.bind ?_ (fun _ => ?_)
set_option maxHeartbeats 8000000 in
set_option maxRecDepth 100000 in
theorem control_Of.calls (k : Nat) (A0 : Option Addr) (c0 : Nat) (l0 : List (S81)) (r1 : Int) (r2 : Int) (r3 : Int) (r4 : Int) (w : World) (hr0 : Kd.C k81 w A0 l0.length l0) (hc0 : l0.length ≤ c0) (h : control_Of.f k l0 = some (r1, r2, r3, r4)) :
    Calls Try.prog 48 #[.slice A0 l0.length c0] w fun e w' => e = .returned (.tuple #[.agg #[.int .i64 r1, .int .i64 r2, .int .i64 r3], .int .i64 r4]) ∧ Below w.heap.size w w' := by
  have hu83 := Try.underlying83
  have hu81 := Try.underlying81
  have HR0 := Aside0.mk hr0
  have HC0 := Aside0.mk hc0
  clear hr0 hc0
  have HB := Aside0.mk (Below.refl w.heap.size w)
  have H : (if (l0.length : Int) > 4096 then (some (0, 0, 0, 3)) else (control_Of.l0 k l0 (l0.length : Int) 0 0 0 0)) = some (r1, r2, r3, r4) := h
  clear h
  by_cases c2 : (l0.length : Int) > 4096
  · rw [if_pos c2] at H
    have c2b0 : decide (4096 < (l0.length : Int)) = true := decide_eq_true c2
    have c2b1 : decide (4096 < l0.length) = true := decide_eq_true (by omega)
    clear c2
    simp only [Option.some.injEq, Prod.mk.injEq] at H
    obtain ⟨rfl, rfl, rfl, rfl⟩ := H
    go_enter Try.func48, Try.ntmps48
    go_wp2_with (first | ((with_reducible refine gate_dst (N := 2) rfl ?_); refine box_event ?hg (N := 2) ?hd (cs := #[.int .i64 0, .int .i64 0, .int .i64 0]) (t := 83) ?hr ?_; (case hd => rfl); (case hg => rfl); (case hr => first | (go_simp; done) | (go_simp; rfl)); intro gb428 hg w3 hbox hb; have n0_ := Aside0.mk (below_step (by repeat (first | (with_reducible first | exact HB.out | apply below_alloc | apply pw_below_drewN | apply below_drew1) | exact HB.out)) hb); have n1_ := Aside0.mk (hbox); have n2_ := Aside0.mk ((by rw [hg]; exact (below_size (by repeat (first | (with_reducible first | exact HB.out | apply below_alloc | apply pw_below_drewN | apply below_drew1) | exact HB.out))) : w.heap.size ≤ gb428)); have n3_ := Aside0.mk ((by rw [hg]; exact (below_size (by repeat (first | (with_reducible first | exact HB.out | apply below_alloc | apply pw_below_drewN | apply below_drew1) | exact HB.out))) : w.heap.size ≤ gb428)); clear HB; have HB := n0_; have BK428 := n1_; have GW428 := n2_; have GE428 := n3_; clear n0_ n1_ n2_ n3_; clear hb hbox hg; have hcz4_0 : w3.cell? ⟨gb428, 0, none⟩ = some (.int .i64 0) := (blk_cell BK428.out 0).trans rfl; have hcz4_1 : w3.cell? ⟨gb428, 1, none⟩ = some (.int .i64 0) := (blk_cell BK428.out 1).trans rfl; have hcz4_2 : w3.cell? ⟨gb428, 2, none⟩ = some (.int .i64 0) := (blk_cell BK428.out 2).trans rfl; have hfz4_0 := blk_frozen BK428.out 0; have hfz4_1 := blk_frozen BK428.out 1; have hfz4_2 := blk_frozen BK428.out 2))
    refine bodyPost_ret (results_ct rfl _ _ gb428 83 #[.int .i64 0, .int .i64 0, .int .i64 0] (0, 0) _ rfl (by (with_reducible repeat (first | refine blk_drewN ?_ _ | refine blk_drew ?_ | refine blk_alloc ?_ _)); refine blk_put (cs := #[.int .i64 0, .int .i64 0, .int .i64 0]) ?_ 2 _ rfl; (with_reducible repeat (first | refine blk_drewN ?_ _ | refine blk_drew ?_ | refine blk_alloc ?_ _)); refine blk_put (cs := #[.int .i64 0, .int .i64 0, .int .i64 0]) ?_ 1 _ rfl; (with_reducible repeat (first | refine blk_drewN ?_ _ | refine blk_drew ?_ | refine blk_alloc ?_ _)); refine blk_put (cs := #[.int .i64 0, .int .i64 0, .int .i64 0]) ?_ 0 _ rfl; (with_reducible repeat (first | refine blk_drewN ?_ _ | refine blk_drew ?_ | refine blk_alloc ?_ _)); exact BK428.out) Try.underlying83 rfl (by kernel_rfl)) rfl ?_
    exact ⟨by first | rfl | (simp [errW_none, errW_some] <;> rfl) | (simp [*, errW_none, errW_some] <;> rfl), by repeat (first | (with_reducible first | exact HB.out | apply below_alloc | apply pw_below_drewN | apply below_drew1 | refine below_set ?_ GE428.out) | exact HB.out)⟩
  · rw [if_neg c2] at H
    have c2b0 : decide (4096 < (l0.length : Int)) = false := decide_eq_false c2
    have c2b1 : decide (4096 < l0.length) = false := decide_eq_false (by omega)
    clear c2
    have H' := Aside0.mk H
    clear H
    go_enter Try.func48, Try.ntmps48
    go_wp2_with (first | ((with_reducible refine gate_dst (N := 2) rfl ?_); refine box_event ?hg (N := 2) ?hd (cs := #[.int .i64 0, .int .i64 0, .int .i64 0]) (t := 83) ?hr ?_; (case hd => rfl); (case hg => rfl); (case hr => first | (go_simp; done) | (go_simp; rfl)); intro gb428 hg w5 hbox hb; have n0_ := Aside0.mk (below_step (by repeat (first | (with_reducible first | exact HB.out | apply below_alloc | apply pw_below_drewN | apply below_drew1) | exact HB.out)) hb); have n1_ := Aside0.mk (hbox); have n2_ := Aside0.mk ((by rw [hg]; exact (below_size (by repeat (first | (with_reducible first | exact HB.out | apply below_alloc | apply pw_below_drewN | apply below_drew1) | exact HB.out))) : w.heap.size ≤ gb428)); have n3_ := Aside0.mk ((by rw [hg]; exact (below_size (by repeat (first | (with_reducible first | exact HB.out | apply below_alloc | apply pw_below_drewN | apply below_drew1) | exact HB.out))) : w.heap.size ≤ gb428)); clear HB; have HB := n0_; have BK428 := n1_; have GW428 := n2_; have GE428 := n3_; clear n0_ n1_ n2_ n3_; clear hb hbox hg) | ((with_reducible refine gate_dst (N := 4) rfl ?_); refine box_event ?hg (N := 4) ?hd (cs := #[.int .i64 0, .int .i64 0, .int .i64 0]) (t := 83) ?hr ?_; (case hd => rfl); (case hg => rfl); (case hr => first | (go_simp; done) | (go_simp; rfl)); intro gb429 hg w6 hbox hb; have n0_ := Aside0.mk (blk_below (g := gb428) (o := .cells #[.int .i64 0, .int .i64 0, .int .i64 0] 83 (0, 0)) (by (with_reducible repeat (first | refine blk_drewN ?_ _ | refine blk_drew ?_ | refine blk_alloc ?_ _)); exact BK428.out) hb); have n1_ := Aside0.mk (below_step (by repeat (first | (with_reducible first | exact HB.out | apply below_alloc | apply pw_below_drewN | apply below_drew1 | refine below_set ?_ GE428.out) | exact HB.out)) hb); have n2_ := Aside0.mk (hbox); have n3_ := Aside0.mk ((by rw [hg]; exact (below_size (by repeat (first | (with_reducible first | exact HB.out | apply below_alloc | apply pw_below_drewN | apply below_drew1 | refine below_set ?_ GE428.out) | exact HB.out))) : w.heap.size ≤ gb429)); have n4_ := Aside0.mk ((by rw [hg]; exact (below_size (by repeat (first | (with_reducible first | exact HB.out | apply below_alloc | apply pw_below_drewN | apply below_drew1 | refine below_set ?_ GE428.out) | exact HB.out))) : w.heap.size ≤ gb429)); have n5_ := Aside0.mk ((by rw [hg]; exact Nat.ne_of_lt (blk_lt (g := gb428) (o := .cells #[.int .i64 0, .int .i64 0, .int .i64 0] 83 (0, 0)) (by (with_reducible repeat (first | refine blk_drewN ?_ _ | refine blk_drew ?_ | refine blk_alloc ?_ _)); exact BK428.out)) : gb428 ≠ gb429)); have n6_ := Aside0.mk ((by rw [hg]; exact Nat.ne_of_gt (blk_lt (g := gb428) (o := .cells #[.int .i64 0, .int .i64 0, .int .i64 0] 83 (0, 0)) (by (with_reducible repeat (first | refine blk_drewN ?_ _ | refine blk_drew ?_ | refine blk_alloc ?_ _)); exact BK428.out)) : gb429 ≠ gb428)); clear BK428; clear HB; have BK428 := n0_; have HB := n1_; have BK429 := n2_; have GW429 := n3_; have GE429 := n4_; have NB428_429 := n5_; have NB429_428 := n6_; clear n0_ n1_ n2_ n3_ n4_ n5_ n6_; clear hb hbox hg))
    go_loopg [13] k (fun kq v13 w' => ∃ (x13_1 : Int) (x429000_1 : Int) (x429001_1 : Int) (x429002_1 : Int) (x430000_1 : Int) (x430001_1 : Int) (x430002_1 : Int), v13 = .int .i64 x13_1 ∧ Aside0 (control_Of.l0 kq l0 (l0.length : Int) x13_1 x430000_1 x430001_1 x430002_1 = some (r1, r2, r3, r4)) ∧ Aside0 (kq ≤ k) ∧ Aside0 (w'.heap[gb428]? = some (.cells #[.int .i64 x429000_1, .int .i64 x429001_1, .int .i64 x429002_1] 83 (0, 0))) ∧ Aside0 (w'.heap[gb429]? = some (.cells #[.int .i64 x430000_1, .int .i64 x430001_1, .int .i64 x430002_1] 83 (0, 0))) ∧ Aside0 (Below w.heap.size w w'))
    case atStart => exact ⟨(0), (0), (0), (0), (0), (0), (0), (by first | rfl | (simp; done) | (simp [*]; done)), H', ⟨Nat.le_refl _⟩, ⟨by (with_reducible repeat (first | refine blk_drewN ?_ _ | refine blk_drew ?_ | refine blk_alloc ?_ _)); exact BK428.out⟩, ⟨by (with_reducible repeat (first | refine blk_drewN ?_ _ | refine blk_drew ?_ | refine blk_alloc ?_ _)); exact BK429.out⟩, ⟨by repeat (first | (with_reducible first | exact HB.out | apply below_alloc | apply pw_below_drewN | apply below_drew1 | refine below_set ?_ GE428.out | refine below_set ?_ GE429.out) | exact HB.out)⟩⟩
    case round =>
      clear H'
      try clear c2
      try clear c2b0
      try clear c2b1
      try clear p2
      try clear c4
      try clear hcz4_0
      try clear hcz4_1
      try clear hcz4_2
      try clear hfz4_0
      try clear hfz4_1
      try clear hfz4_2
      obtain ⟨x13_1, x429000_1, x429001_1, x429002_1, x430000_1, x430001_1, x430002_1, rfl, HA, HK1, BK428, BK429, HB⟩ := hrel
      cases gk with
      | zero => exact absurd HA.out (by simp [control_Of.l0])
      | succ k1 =>
        have H := HA.out
        clear HA
        simp only [control_Of.l0] at H
        by_cases c7 : x13_1 < (l0.length : Int)
        · rw [if_pos c7] at H
          have c7b0 : decide (x13_1 < (l0.length : Int)) = true := decide_eq_true c7
          clear c7
          by_cases c8 : 0 ≤ x13_1
          · rw [if_pos c8] at H
            have c8b0 : decide (0 ≤ x13_1) = true := decide_eq_true c8
            clear c8
            by_cases c9 : x13_1 < (l0.length : Int)
            · rw [if_pos c9] at H
              have c9b0 : decide (x13_1 < (l0.length : Int)) = true := decide_eq_true c9
              clear c9
              by_cases c10 : ((rd_T81 l0 x13_1).f0) < 1
              · rw [if_pos c10] at H
                have c10b0 : decide (((rd_T81 l0 x13_1).f0) < 1) = true := decide_eq_true c10
                clear c10
                simp only [Option.some.injEq, Prod.mk.injEq] at H
                obtain ⟨rfl, rfl, rfl, rfl⟩ := H
                have p430 : 0 ≤ (x13_1 : Int) := of_decide_eq_true (by first | (with_reducible assumption) | assumption)
                have q430 : x13_1 < (l0.length : Int) := of_decide_eq_true (by first | (with_reducible assumption) | assumption)
                obtain ⟨ad430, e430, hx430_0, hx430_1⟩ := at_T81 HR0.out x13_1 p430 q430
                cases e430
                replace hx430_0 := (HB.out.cell (World.block_lt_of_cell? w _ hx430_0)).trans hx430_0
                replace hx430_1 := (HB.out.cell (World.block_lt_of_cell? w _ hx430_1)).trans hx430_1
                replace p430 := eq_true p430
                replace q430 := eq_true q430
                go_wp2_with (first | ((with_reducible refine gate_dst (N := 6) rfl ?_); refine box_event ?hg (N := 6) ?hd (cs := #[.int .i64 0, .int .i64 0]) (t := 81) ?hr ?_; (case hd => rfl); (case hg => rfl); (case hr => first | (go_simp; done) | (go_simp; rfl)); intro gb431 hg w11 hbox hb; have n0_ := Aside0.mk (blk_below (g := gb428) (o := .cells #[.int .i64 x429000_1, .int .i64 x429001_1, .int .i64 x429002_1] 83 (0, 0)) (by (with_reducible repeat (first | refine blk_drewN ?_ _ | refine blk_drew ?_ | refine blk_alloc ?_ _)); exact BK428.out) hb); have n1_ := Aside0.mk (blk_below (g := gb429) (o := .cells #[.int .i64 x430000_1, .int .i64 x430001_1, .int .i64 x430002_1] 83 (0, 0)) (by (with_reducible repeat (first | refine blk_drewN ?_ _ | refine blk_drew ?_ | refine blk_alloc ?_ _)); exact BK429.out) hb); have n2_ := Aside0.mk (below_step (by repeat (first | (with_reducible first | exact HB.out | apply below_alloc | apply pw_below_drewN | apply below_drew1 | refine below_set ?_ GE428.out | refine below_set ?_ GE429.out) | exact HB.out)) hb); have n3_ := Aside0.mk (hbox); have n4_ := Aside0.mk ((by rw [hg]; exact (below_size (by repeat (first | (with_reducible first | exact HB.out | apply below_alloc | apply pw_below_drewN | apply below_drew1 | refine below_set ?_ GE428.out | refine below_set ?_ GE429.out) | exact HB.out))) : w.heap.size ≤ gb431)); have n5_ := Aside0.mk ((by rw [hg]; exact (below_size (by repeat (first | (with_reducible first | exact HB.out | apply below_alloc | apply pw_below_drewN | apply below_drew1 | refine below_set ?_ GE428.out | refine below_set ?_ GE429.out) | exact HB.out))) : w.heap.size ≤ gb431)); have n6_ := Aside0.mk ((by rw [hg]; exact Nat.ne_of_lt (blk_lt (g := gb428) (o := .cells #[.int .i64 x429000_1, .int .i64 x429001_1, .int .i64 x429002_1] 83 (0, 0)) (by (with_reducible repeat (first | refine blk_drewN ?_ _ | refine blk_drew ?_ | refine blk_alloc ?_ _)); exact BK428.out)) : gb428 ≠ gb431)); have n7_ := Aside0.mk ((by rw [hg]; exact Nat.ne_of_gt (blk_lt (g := gb428) (o := .cells #[.int .i64 x429000_1, .int .i64 x429001_1, .int .i64 x429002_1] 83 (0, 0)) (by (with_reducible repeat (first | refine blk_drewN ?_ _ | refine blk_drew ?_ | refine blk_alloc ?_ _)); exact BK428.out)) : gb431 ≠ gb428)); have n8_ := Aside0.mk ((by rw [hg]; exact Nat.ne_of_lt (blk_lt (g := gb429) (o := .cells #[.int .i64 x430000_1, .int .i64 x430001_1, .int .i64 x430002_1] 83 (0, 0)) (by (with_reducible repeat (first | refine blk_drewN ?_ _ | refine blk_drew ?_ | refine blk_alloc ?_ _)); exact BK429.out)) : gb429 ≠ gb431)); have n9_ := Aside0.mk ((by rw [hg]; exact Nat.ne_of_gt (blk_lt (g := gb429) (o := .cells #[.int .i64 x430000_1, .int .i64 x430001_1, .int .i64 x430002_1] 83 (0, 0)) (by (with_reducible repeat (first | refine blk_drewN ?_ _ | refine blk_drew ?_ | refine blk_alloc ?_ _)); exact BK429.out)) : gb431 ≠ gb429)); clear BK428; clear BK429; clear HB; have BK428 := n0_; have BK429 := n1_; have HB := n2_; have BK431 := n3_; have GW431 := n4_; have GE431 := n5_; have NB428_431 := n6_; have NB431_428 := n7_; have NB429_431 := n8_; have NB431_429 := n9_; clear n0_ n1_ n2_ n3_ n4_ n5_ n6_ n7_ n8_ n9_; clear hb hbox hg; have hnb12 := NB431_428.out; have hnc12 := NB428_431.out; have hnb13 := NB431_429.out; have hnc13 := NB429_431.out; have hcz14_0 : w11.cell? ⟨gb431, 0, none⟩ = some (.int .i64 0) := (blk_cell BK431.out 0).trans rfl; have hcz14_1 : w11.cell? ⟨gb431, 1, none⟩ = some (.int .i64 0) := (blk_cell BK431.out 1).trans rfl; have hfz14_0 := blk_frozen BK431.out 0; have hfz14_1 := blk_frozen BK431.out 1; have hnb15 := NB428_429.out; have hnc15 := NB429_428.out; have hcz16_0 : w11.cell? ⟨gb428, 0, none⟩ = some (.int .i64 x429000_1) := (blk_cell BK428.out 0).trans rfl; have hcz16_1 : w11.cell? ⟨gb428, 1, none⟩ = some (.int .i64 x429001_1) := (blk_cell BK428.out 1).trans rfl; have hcz16_2 : w11.cell? ⟨gb428, 2, none⟩ = some (.int .i64 x429002_1) := (blk_cell BK428.out 2).trans rfl; have hfz16_0 := blk_frozen BK428.out 0; have hfz16_1 := blk_frozen BK428.out 1; have hfz16_2 := blk_frozen BK428.out 2))
                refine bodyPost_ret (results_ct rfl _ _ gb428 83 #[.int .i64 0, .int .i64 0, .int .i64 0] (0, 0) _ rfl (by (with_reducible repeat (first | refine blk_drewN ?_ _ | refine blk_drew ?_ | refine blk_alloc ?_ _)); refine blk_put (cs := #[.int .i64 0, .int .i64 0, .int .i64 x429002_1]) ?_ 2 _ rfl; (with_reducible repeat (first | refine blk_drewN ?_ _ | refine blk_drew ?_ | refine blk_alloc ?_ _)); refine blk_put (cs := #[.int .i64 0, .int .i64 x429001_1, .int .i64 x429002_1]) ?_ 1 _ rfl; (with_reducible repeat (first | refine blk_drewN ?_ _ | refine blk_drew ?_ | refine blk_alloc ?_ _)); refine blk_put (cs := #[.int .i64 x429000_1, .int .i64 x429001_1, .int .i64 x429002_1]) ?_ 0 _ rfl; (with_reducible repeat (first | refine blk_drewN ?_ _ | refine blk_drew ?_ | refine blk_alloc ?_ _)); refine blk_far ?_ NB428_431.out _; (with_reducible repeat (first | refine blk_drewN ?_ _ | refine blk_drew ?_ | refine blk_alloc ?_ _)); refine blk_far ?_ NB428_431.out _; (with_reducible repeat (first | refine blk_drewN ?_ _ | refine blk_drew ?_ | refine blk_alloc ?_ _)); exact BK428.out) Try.underlying83 rfl (by kernel_rfl)) rfl ?_
                exact ⟨by first | rfl | (simp [errW_none, errW_some] <;> rfl) | (simp [*, errW_none, errW_some] <;> rfl), by repeat (first | (with_reducible first | exact HB.out | apply below_alloc | apply pw_below_drewN | apply below_drew1 | refine below_set ?_ GE428.out | refine below_set ?_ GE429.out | refine below_set ?_ GE431.out) | exact HB.out)⟩
              · rw [if_neg c10] at H
                have c10b0 : decide (((rd_T81 l0 x13_1).f0) < 1) = false := decide_eq_false c10
                clear c10
                by_cases c17 : ((rd_T81 l0 x13_1).f0) > 2147483647
                · rw [if_pos c17] at H
                  have c17b0 : decide (2147483647 < ((rd_T81 l0 x13_1).f0)) = true := decide_eq_true c17
                  clear c17
                  simp only [Option.some.injEq, Prod.mk.injEq] at H
                  obtain ⟨rfl, rfl, rfl, rfl⟩ := H
                  have p430 : 0 ≤ (x13_1 : Int) := of_decide_eq_true (by first | (with_reducible assumption) | assumption)
                  have q430 : x13_1 < (l0.length : Int) := of_decide_eq_true (by first | (with_reducible assumption) | assumption)
                  obtain ⟨ad430, e430, hx430_0, hx430_1⟩ := at_T81 HR0.out x13_1 p430 q430
                  cases e430
                  replace hx430_0 := (HB.out.cell (World.block_lt_of_cell? w _ hx430_0)).trans hx430_0
                  replace hx430_1 := (HB.out.cell (World.block_lt_of_cell? w _ hx430_1)).trans hx430_1
                  replace p430 := eq_true p430
                  replace q430 := eq_true q430
                  go_wp2_with (first | ((with_reducible refine gate_dst (N := 6) rfl ?_); refine box_event ?hg (N := 6) ?hd (cs := #[.int .i64 0, .int .i64 0]) (t := 81) ?hr ?_; (case hd => rfl); (case hg => rfl); (case hr => first | (go_simp; done) | (go_simp; rfl)); intro gb431 hg w18 hbox hb; have n0_ := Aside0.mk (blk_below (g := gb428) (o := .cells #[.int .i64 x429000_1, .int .i64 x429001_1, .int .i64 x429002_1] 83 (0, 0)) (by (with_reducible repeat (first | refine blk_drewN ?_ _ | refine blk_drew ?_ | refine blk_alloc ?_ _)); exact BK428.out) hb); have n1_ := Aside0.mk (blk_below (g := gb429) (o := .cells #[.int .i64 x430000_1, .int .i64 x430001_1, .int .i64 x430002_1] 83 (0, 0)) (by (with_reducible repeat (first | refine blk_drewN ?_ _ | refine blk_drew ?_ | refine blk_alloc ?_ _)); exact BK429.out) hb); have n2_ := Aside0.mk (below_step (by repeat (first | (with_reducible first | exact HB.out | apply below_alloc | apply pw_below_drewN | apply below_drew1 | refine below_set ?_ GE428.out | refine below_set ?_ GE429.out) | exact HB.out)) hb); have n3_ := Aside0.mk (hbox); have n4_ := Aside0.mk ((by rw [hg]; exact (below_size (by repeat (first | (with_reducible first | exact HB.out | apply below_alloc | apply pw_below_drewN | apply below_drew1 | refine below_set ?_ GE428.out | refine below_set ?_ GE429.out) | exact HB.out))) : w.heap.size ≤ gb431)); have n5_ := Aside0.mk ((by rw [hg]; exact (below_size (by repeat (first | (with_reducible first | exact HB.out | apply below_alloc | apply pw_below_drewN | apply below_drew1 | refine below_set ?_ GE428.out | refine below_set ?_ GE429.out) | exact HB.out))) : w.heap.size ≤ gb431)); have n6_ := Aside0.mk ((by rw [hg]; exact Nat.ne_of_lt (blk_lt (g := gb428) (o := .cells #[.int .i64 x429000_1, .int .i64 x429001_1, .int .i64 x429002_1] 83 (0, 0)) (by (with_reducible repeat (first | refine blk_drewN ?_ _ | refine blk_drew ?_ | refine blk_alloc ?_ _)); exact BK428.out)) : gb428 ≠ gb431)); have n7_ := Aside0.mk ((by rw [hg]; exact Nat.ne_of_gt (blk_lt (g := gb428) (o := .cells #[.int .i64 x429000_1, .int .i64 x429001_1, .int .i64 x429002_1] 83 (0, 0)) (by (with_reducible repeat (first | refine blk_drewN ?_ _ | refine blk_drew ?_ | refine blk_alloc ?_ _)); exact BK428.out)) : gb431 ≠ gb428)); have n8_ := Aside0.mk ((by rw [hg]; exact Nat.ne_of_lt (blk_lt (g := gb429) (o := .cells #[.int .i64 x430000_1, .int .i64 x430001_1, .int .i64 x430002_1] 83 (0, 0)) (by (with_reducible repeat (first | refine blk_drewN ?_ _ | refine blk_drew ?_ | refine blk_alloc ?_ _)); exact BK429.out)) : gb429 ≠ gb431)); have n9_ := Aside0.mk ((by rw [hg]; exact Nat.ne_of_gt (blk_lt (g := gb429) (o := .cells #[.int .i64 x430000_1, .int .i64 x430001_1, .int .i64 x430002_1] 83 (0, 0)) (by (with_reducible repeat (first | refine blk_drewN ?_ _ | refine blk_drew ?_ | refine blk_alloc ?_ _)); exact BK429.out)) : gb431 ≠ gb429)); clear BK428; clear BK429; clear HB; have BK428 := n0_; have BK429 := n1_; have HB := n2_; have BK431 := n3_; have GW431 := n4_; have GE431 := n5_; have NB428_431 := n6_; have NB431_428 := n7_; have NB429_431 := n8_; have NB431_429 := n9_; clear n0_ n1_ n2_ n3_ n4_ n5_ n6_ n7_ n8_ n9_; clear hb hbox hg; have hnb19 := NB431_428.out; have hnc19 := NB428_431.out; have hnb20 := NB431_429.out; have hnc20 := NB429_431.out; have hcz21_0 : w18.cell? ⟨gb431, 0, none⟩ = some (.int .i64 0) := (blk_cell BK431.out 0).trans rfl; have hcz21_1 : w18.cell? ⟨gb431, 1, none⟩ = some (.int .i64 0) := (blk_cell BK431.out 1).trans rfl; have hfz21_0 := blk_frozen BK431.out 0; have hfz21_1 := blk_frozen BK431.out 1; have hnb22 := NB428_429.out; have hnc22 := NB429_428.out; have hcz23_0 : w18.cell? ⟨gb428, 0, none⟩ = some (.int .i64 x429000_1) := (blk_cell BK428.out 0).trans rfl; have hcz23_1 : w18.cell? ⟨gb428, 1, none⟩ = some (.int .i64 x429001_1) := (blk_cell BK428.out 1).trans rfl; have hcz23_2 : w18.cell? ⟨gb428, 2, none⟩ = some (.int .i64 x429002_1) := (blk_cell BK428.out 2).trans rfl; have hfz23_0 := blk_frozen BK428.out 0; have hfz23_1 := blk_frozen BK428.out 1; have hfz23_2 := blk_frozen BK428.out 2))
                  refine bodyPost_ret (results_ct rfl _ _ gb428 83 #[.int .i64 0, .int .i64 0, .int .i64 0] (0, 0) _ rfl (by (with_reducible repeat (first | refine blk_drewN ?_ _ | refine blk_drew ?_ | refine blk_alloc ?_ _)); refine blk_put (cs := #[.int .i64 0, .int .i64 0, .int .i64 x429002_1]) ?_ 2 _ rfl; (with_reducible repeat (first | refine blk_drewN ?_ _ | refine blk_drew ?_ | refine blk_alloc ?_ _)); refine blk_put (cs := #[.int .i64 0, .int .i64 x429001_1, .int .i64 x429002_1]) ?_ 1 _ rfl; (with_reducible repeat (first | refine blk_drewN ?_ _ | refine blk_drew ?_ | refine blk_alloc ?_ _)); refine blk_put (cs := #[.int .i64 x429000_1, .int .i64 x429001_1, .int .i64 x429002_1]) ?_ 0 _ rfl; (with_reducible repeat (first | refine blk_drewN ?_ _ | refine blk_drew ?_ | refine blk_alloc ?_ _)); refine blk_far ?_ NB428_431.out _; (with_reducible repeat (first | refine blk_drewN ?_ _ | refine blk_drew ?_ | refine blk_alloc ?_ _)); refine blk_far ?_ NB428_431.out _; (with_reducible repeat (first | refine blk_drewN ?_ _ | refine blk_drew ?_ | refine blk_alloc ?_ _)); exact BK428.out) Try.underlying83 rfl (by kernel_rfl)) rfl ?_
                  exact ⟨by first | rfl | (simp [errW_none, errW_some] <;> rfl) | (simp [*, errW_none, errW_some] <;> rfl), by repeat (first | (with_reducible first | exact HB.out | apply below_alloc | apply pw_below_drewN | apply below_drew1 | refine below_set ?_ GE428.out | refine below_set ?_ GE429.out | refine below_set ?_ GE431.out) | exact HB.out)⟩
                · rw [if_neg c17] at H
                  have c17b0 : decide (2147483647 < ((rd_T81 l0 x13_1).f0)) = false := decide_eq_false c17
                  clear c17
                  by_cases c24 : ((rd_T81 l0 x13_1).f1) < 1
                  · rw [if_pos c24] at H
                    have c24b0 : decide (((rd_T81 l0 x13_1).f1) < 1) = true := decide_eq_true c24
                    clear c24
                    simp only [Option.some.injEq, Prod.mk.injEq] at H
                    obtain ⟨rfl, rfl, rfl, rfl⟩ := H
                    have p430 : 0 ≤ (x13_1 : Int) := of_decide_eq_true (by first | (with_reducible assumption) | assumption)
                    have q430 : x13_1 < (l0.length : Int) := of_decide_eq_true (by first | (with_reducible assumption) | assumption)
                    obtain ⟨ad430, e430, hx430_0, hx430_1⟩ := at_T81 HR0.out x13_1 p430 q430
                    cases e430
                    replace hx430_0 := (HB.out.cell (World.block_lt_of_cell? w _ hx430_0)).trans hx430_0
                    replace hx430_1 := (HB.out.cell (World.block_lt_of_cell? w _ hx430_1)).trans hx430_1
                    replace p430 := eq_true p430
                    replace q430 := eq_true q430
                    go_wp2_with (first | ((with_reducible refine gate_dst (N := 6) rfl ?_); refine box_event ?hg (N := 6) ?hd (cs := #[.int .i64 0, .int .i64 0]) (t := 81) ?hr ?_; (case hd => rfl); (case hg => rfl); (case hr => first | (go_simp; done) | (go_simp; rfl)); intro gb431 hg w25 hbox hb; have n0_ := Aside0.mk (blk_below (g := gb428) (o := .cells #[.int .i64 x429000_1, .int .i64 x429001_1, .int .i64 x429002_1] 83 (0, 0)) (by (with_reducible repeat (first | refine blk_drewN ?_ _ | refine blk_drew ?_ | refine blk_alloc ?_ _)); exact BK428.out) hb); have n1_ := Aside0.mk (blk_below (g := gb429) (o := .cells #[.int .i64 x430000_1, .int .i64 x430001_1, .int .i64 x430002_1] 83 (0, 0)) (by (with_reducible repeat (first | refine blk_drewN ?_ _ | refine blk_drew ?_ | refine blk_alloc ?_ _)); exact BK429.out) hb); have n2_ := Aside0.mk (below_step (by repeat (first | (with_reducible first | exact HB.out | apply below_alloc | apply pw_below_drewN | apply below_drew1 | refine below_set ?_ GE428.out | refine below_set ?_ GE429.out) | exact HB.out)) hb); have n3_ := Aside0.mk (hbox); have n4_ := Aside0.mk ((by rw [hg]; exact (below_size (by repeat (first | (with_reducible first | exact HB.out | apply below_alloc | apply pw_below_drewN | apply below_drew1 | refine below_set ?_ GE428.out | refine below_set ?_ GE429.out) | exact HB.out))) : w.heap.size ≤ gb431)); have n5_ := Aside0.mk ((by rw [hg]; exact (below_size (by repeat (first | (with_reducible first | exact HB.out | apply below_alloc | apply pw_below_drewN | apply below_drew1 | refine below_set ?_ GE428.out | refine below_set ?_ GE429.out) | exact HB.out))) : w.heap.size ≤ gb431)); have n6_ := Aside0.mk ((by rw [hg]; exact Nat.ne_of_lt (blk_lt (g := gb428) (o := .cells #[.int .i64 x429000_1, .int .i64 x429001_1, .int .i64 x429002_1] 83 (0, 0)) (by (with_reducible repeat (first | refine blk_drewN ?_ _ | refine blk_drew ?_ | refine blk_alloc ?_ _)); exact BK428.out)) : gb428 ≠ gb431)); have n7_ := Aside0.mk ((by rw [hg]; exact Nat.ne_of_gt (blk_lt (g := gb428) (o := .cells #[.int .i64 x429000_1, .int .i64 x429001_1, .int .i64 x429002_1] 83 (0, 0)) (by (with_reducible repeat (first | refine blk_drewN ?_ _ | refine blk_drew ?_ | refine blk_alloc ?_ _)); exact BK428.out)) : gb431 ≠ gb428)); have n8_ := Aside0.mk ((by rw [hg]; exact Nat.ne_of_lt (blk_lt (g := gb429) (o := .cells #[.int .i64 x430000_1, .int .i64 x430001_1, .int .i64 x430002_1] 83 (0, 0)) (by (with_reducible repeat (first | refine blk_drewN ?_ _ | refine blk_drew ?_ | refine blk_alloc ?_ _)); exact BK429.out)) : gb429 ≠ gb431)); have n9_ := Aside0.mk ((by rw [hg]; exact Nat.ne_of_gt (blk_lt (g := gb429) (o := .cells #[.int .i64 x430000_1, .int .i64 x430001_1, .int .i64 x430002_1] 83 (0, 0)) (by (with_reducible repeat (first | refine blk_drewN ?_ _ | refine blk_drew ?_ | refine blk_alloc ?_ _)); exact BK429.out)) : gb431 ≠ gb429)); clear BK428; clear BK429; clear HB; have BK428 := n0_; have BK429 := n1_; have HB := n2_; have BK431 := n3_; have GW431 := n4_; have GE431 := n5_; have NB428_431 := n6_; have NB431_428 := n7_; have NB429_431 := n8_; have NB431_429 := n9_; clear n0_ n1_ n2_ n3_ n4_ n5_ n6_ n7_ n8_ n9_; clear hb hbox hg; have hnb26 := NB431_428.out; have hnc26 := NB428_431.out; have hnb27 := NB431_429.out; have hnc27 := NB429_431.out; have hcz28_0 : w25.cell? ⟨gb431, 0, none⟩ = some (.int .i64 0) := (blk_cell BK431.out 0).trans rfl; have hcz28_1 : w25.cell? ⟨gb431, 1, none⟩ = some (.int .i64 0) := (blk_cell BK431.out 1).trans rfl; have hfz28_0 := blk_frozen BK431.out 0; have hfz28_1 := blk_frozen BK431.out 1; have hnb29 := NB428_429.out; have hnc29 := NB429_428.out; have hcz30_0 : w25.cell? ⟨gb428, 0, none⟩ = some (.int .i64 x429000_1) := (blk_cell BK428.out 0).trans rfl; have hcz30_1 : w25.cell? ⟨gb428, 1, none⟩ = some (.int .i64 x429001_1) := (blk_cell BK428.out 1).trans rfl; have hcz30_2 : w25.cell? ⟨gb428, 2, none⟩ = some (.int .i64 x429002_1) := (blk_cell BK428.out 2).trans rfl; have hfz30_0 := blk_frozen BK428.out 0; have hfz30_1 := blk_frozen BK428.out 1; have hfz30_2 := blk_frozen BK428.out 2))
                    refine bodyPost_ret (results_ct rfl _ _ gb428 83 #[.int .i64 0, .int .i64 0, .int .i64 0] (0, 0) _ rfl (by (with_reducible repeat (first | refine blk_drewN ?_ _ | refine blk_drew ?_ | refine blk_alloc ?_ _)); refine blk_put (cs := #[.int .i64 0, .int .i64 0, .int .i64 x429002_1]) ?_ 2 _ rfl; (with_reducible repeat (first | refine blk_drewN ?_ _ | refine blk_drew ?_ | refine blk_alloc ?_ _)); refine blk_put (cs := #[.int .i64 0, .int .i64 x429001_1, .int .i64 x429002_1]) ?_ 1 _ rfl; (with_reducible repeat (first | refine blk_drewN ?_ _ | refine blk_drew ?_ | refine blk_alloc ?_ _)); refine blk_put (cs := #[.int .i64 x429000_1, .int .i64 x429001_1, .int .i64 x429002_1]) ?_ 0 _ rfl; (with_reducible repeat (first | refine blk_drewN ?_ _ | refine blk_drew ?_ | refine blk_alloc ?_ _)); refine blk_far ?_ NB428_431.out _; (with_reducible repeat (first | refine blk_drewN ?_ _ | refine blk_drew ?_ | refine blk_alloc ?_ _)); refine blk_far ?_ NB428_431.out _; (with_reducible repeat (first | refine blk_drewN ?_ _ | refine blk_drew ?_ | refine blk_alloc ?_ _)); exact BK428.out) Try.underlying83 rfl (by kernel_rfl)) rfl ?_
                    exact ⟨by first | rfl | (simp [errW_none, errW_some] <;> rfl) | (simp [*, errW_none, errW_some] <;> rfl), by repeat (first | (with_reducible first | exact HB.out | apply below_alloc | apply pw_below_drewN | apply below_drew1 | refine below_set ?_ GE428.out | refine below_set ?_ GE429.out | refine below_set ?_ GE431.out) | exact HB.out)⟩
                  · rw [if_neg c24] at H
                    have c24b0 : decide (((rd_T81 l0 x13_1).f1) < 1) = false := decide_eq_false c24
                    clear c24
                    by_cases c31 : ((rd_T81 l0 x13_1).f1) > 1000000000000
                    · rw [if_pos c31] at H
                      have c31b0 : decide (1000000000000 < ((rd_T81 l0 x13_1).f1)) = true := decide_eq_true c31
                      clear c31
                      simp only [Option.some.injEq, Prod.mk.injEq] at H
                      obtain ⟨rfl, rfl, rfl, rfl⟩ := H
                      have p430 : 0 ≤ (x13_1 : Int) := of_decide_eq_true (by first | (with_reducible assumption) | assumption)
                      have q430 : x13_1 < (l0.length : Int) := of_decide_eq_true (by first | (with_reducible assumption) | assumption)
                      obtain ⟨ad430, e430, hx430_0, hx430_1⟩ := at_T81 HR0.out x13_1 p430 q430
                      cases e430
                      replace hx430_0 := (HB.out.cell (World.block_lt_of_cell? w _ hx430_0)).trans hx430_0
                      replace hx430_1 := (HB.out.cell (World.block_lt_of_cell? w _ hx430_1)).trans hx430_1
                      replace p430 := eq_true p430
                      replace q430 := eq_true q430
                      go_wp2_with (first | ((with_reducible refine gate_dst (N := 6) rfl ?_); refine box_event ?hg (N := 6) ?hd (cs := #[.int .i64 0, .int .i64 0]) (t := 81) ?hr ?_; (case hd => rfl); (case hg => rfl); (case hr => first | (go_simp; done) | (go_simp; rfl)); intro gb431 hg w32 hbox hb; have n0_ := Aside0.mk (blk_below (g := gb428) (o := .cells #[.int .i64 x429000_1, .int .i64 x429001_1, .int .i64 x429002_1] 83 (0, 0)) (by (with_reducible repeat (first | refine blk_drewN ?_ _ | refine blk_drew ?_ | refine blk_alloc ?_ _)); exact BK428.out) hb); have n1_ := Aside0.mk (blk_below (g := gb429) (o := .cells #[.int .i64 x430000_1, .int .i64 x430001_1, .int .i64 x430002_1] 83 (0, 0)) (by (with_reducible repeat (first | refine blk_drewN ?_ _ | refine blk_drew ?_ | refine blk_alloc ?_ _)); exact BK429.out) hb); have n2_ := Aside0.mk (below_step (by repeat (first | (with_reducible first | exact HB.out | apply below_alloc | apply pw_below_drewN | apply below_drew1 | refine below_set ?_ GE428.out | refine below_set ?_ GE429.out) | exact HB.out)) hb); have n3_ := Aside0.mk (hbox); have n4_ := Aside0.mk ((by rw [hg]; exact (below_size (by repeat (first | (with_reducible first | exact HB.out | apply below_alloc | apply pw_below_drewN | apply below_drew1 | refine below_set ?_ GE428.out | refine below_set ?_ GE429.out) | exact HB.out))) : w.heap.size ≤ gb431)); have n5_ := Aside0.mk ((by rw [hg]; exact (below_size (by repeat (first | (with_reducible first | exact HB.out | apply below_alloc | apply pw_below_drewN | apply below_drew1 | refine below_set ?_ GE428.out | refine below_set ?_ GE429.out) | exact HB.out))) : w.heap.size ≤ gb431)); have n6_ := Aside0.mk ((by rw [hg]; exact Nat.ne_of_lt (blk_lt (g := gb428) (o := .cells #[.int .i64 x429000_1, .int .i64 x429001_1, .int .i64 x429002_1] 83 (0, 0)) (by (with_reducible repeat (first | refine blk_drewN ?_ _ | refine blk_drew ?_ | refine blk_alloc ?_ _)); exact BK428.out)) : gb428 ≠ gb431)); have n7_ := Aside0.mk ((by rw [hg]; exact Nat.ne_of_gt (blk_lt (g := gb428) (o := .cells #[.int .i64 x429000_1, .int .i64 x429001_1, .int .i64 x429002_1] 83 (0, 0)) (by (with_reducible repeat (first | refine blk_drewN ?_ _ | refine blk_drew ?_ | refine blk_alloc ?_ _)); exact BK428.out)) : gb431 ≠ gb428)); have n8_ := Aside0.mk ((by rw [hg]; exact Nat.ne_of_lt (blk_lt (g := gb429) (o := .cells #[.int .i64 x430000_1, .int .i64 x430001_1, .int .i64 x430002_1] 83 (0, 0)) (by (with_reducible repeat (first | refine blk_drewN ?_ _ | refine blk_drew ?_ | refine blk_alloc ?_ _)); exact BK429.out)) : gb429 ≠ gb431)); have n9_ := Aside0.mk ((by rw [hg]; exact Nat.ne_of_gt (blk_lt (g := gb429) (o := .cells #[.int .i64 x430000_1, .int .i64 x430001_1, .int .i64 x430002_1] 83 (0, 0)) (by (with_reducible repeat (first | refine blk_drewN ?_ _ | refine blk_drew ?_ | refine blk_alloc ?_ _)); exact BK429.out)) : gb431 ≠ gb429)); clear BK428; clear BK429; clear HB; have BK428 := n0_; have BK429 := n1_; have HB := n2_; have BK431 := n3_; have GW431 := n4_; have GE431 := n5_; have NB428_431 := n6_; have NB431_428 := n7_; have NB429_431 := n8_; have NB431_429 := n9_; clear n0_ n1_ n2_ n3_ n4_ n5_ n6_ n7_ n8_ n9_; clear hb hbox hg; have hnb33 := NB431_428.out; have hnc33 := NB428_431.out; have hnb34 := NB431_429.out; have hnc34 := NB429_431.out; have hcz35_0 : w32.cell? ⟨gb431, 0, none⟩ = some (.int .i64 0) := (blk_cell BK431.out 0).trans rfl; have hcz35_1 : w32.cell? ⟨gb431, 1, none⟩ = some (.int .i64 0) := (blk_cell BK431.out 1).trans rfl; have hfz35_0 := blk_frozen BK431.out 0; have hfz35_1 := blk_frozen BK431.out 1; have hnb36 := NB428_429.out; have hnc36 := NB429_428.out; have hcz37_0 : w32.cell? ⟨gb428, 0, none⟩ = some (.int .i64 x429000_1) := (blk_cell BK428.out 0).trans rfl; have hcz37_1 : w32.cell? ⟨gb428, 1, none⟩ = some (.int .i64 x429001_1) := (blk_cell BK428.out 1).trans rfl; have hcz37_2 : w32.cell? ⟨gb428, 2, none⟩ = some (.int .i64 x429002_1) := (blk_cell BK428.out 2).trans rfl; have hfz37_0 := blk_frozen BK428.out 0; have hfz37_1 := blk_frozen BK428.out 1; have hfz37_2 := blk_frozen BK428.out 2))
                      refine bodyPost_ret (results_ct rfl _ _ gb428 83 #[.int .i64 0, .int .i64 0, .int .i64 0] (0, 0) _ rfl (by (with_reducible repeat (first | refine blk_drewN ?_ _ | refine blk_drew ?_ | refine blk_alloc ?_ _)); refine blk_put (cs := #[.int .i64 0, .int .i64 0, .int .i64 x429002_1]) ?_ 2 _ rfl; (with_reducible repeat (first | refine blk_drewN ?_ _ | refine blk_drew ?_ | refine blk_alloc ?_ _)); refine blk_put (cs := #[.int .i64 0, .int .i64 x429001_1, .int .i64 x429002_1]) ?_ 1 _ rfl; (with_reducible repeat (first | refine blk_drewN ?_ _ | refine blk_drew ?_ | refine blk_alloc ?_ _)); refine blk_put (cs := #[.int .i64 x429000_1, .int .i64 x429001_1, .int .i64 x429002_1]) ?_ 0 _ rfl; (with_reducible repeat (first | refine blk_drewN ?_ _ | refine blk_drew ?_ | refine blk_alloc ?_ _)); refine blk_far ?_ NB428_431.out _; (with_reducible repeat (first | refine blk_drewN ?_ _ | refine blk_drew ?_ | refine blk_alloc ?_ _)); refine blk_far ?_ NB428_431.out _; (with_reducible repeat (first | refine blk_drewN ?_ _ | refine blk_drew ?_ | refine blk_alloc ?_ _)); exact BK428.out) Try.underlying83 rfl (by kernel_rfl)) rfl ?_
                      exact ⟨by first | rfl | (simp [errW_none, errW_some] <;> rfl) | (simp [*, errW_none, errW_some] <;> rfl), by repeat (first | (with_reducible first | exact HB.out | apply below_alloc | apply pw_below_drewN | apply below_drew1 | refine below_set ?_ GE428.out | refine below_set ?_ GE429.out | refine below_set ?_ GE431.out) | exact HB.out)⟩
                    · rw [if_neg c31] at H
                      have c31b0 : decide (1000000000000 < ((rd_T81 l0 x13_1).f1)) = false := decide_eq_false c31
                      clear c31
                      have H' := Aside0.mk H
                      clear H
                      have p430 : 0 ≤ (x13_1 : Int) := of_decide_eq_true (by first | (with_reducible assumption) | assumption)
                      have q430 : x13_1 < (l0.length : Int) := of_decide_eq_true (by first | (with_reducible assumption) | assumption)
                      obtain ⟨ad430, e430, hx430_0, hx430_1⟩ := at_T81 HR0.out x13_1 p430 q430
                      cases e430
                      replace hx430_0 := (HB.out.cell (World.block_lt_of_cell? w _ hx430_0)).trans hx430_0
                      replace hx430_1 := (HB.out.cell (World.block_lt_of_cell? w _ hx430_1)).trans hx430_1
                      replace p430 := eq_true p430
                      replace q430 := eq_true q430
                      go_wp2_with (first | ((with_reducible refine gate_dst (N := 6) rfl ?_); refine box_event ?hg (N := 6) ?hd (cs := #[.int .i64 0, .int .i64 0]) (t := 81) ?hr ?_; (case hd => rfl); (case hg => rfl); (case hr => first | (go_simp; done) | (go_simp; rfl)); intro gb431 hg w38 hbox hb; have n0_ := Aside0.mk (blk_below (g := gb428) (o := .cells #[.int .i64 x429000_1, .int .i64 x429001_1, .int .i64 x429002_1] 83 (0, 0)) (by (with_reducible repeat (first | refine blk_drewN ?_ _ | refine blk_drew ?_ | refine blk_alloc ?_ _)); exact BK428.out) hb); have n1_ := Aside0.mk (blk_below (g := gb429) (o := .cells #[.int .i64 x430000_1, .int .i64 x430001_1, .int .i64 x430002_1] 83 (0, 0)) (by (with_reducible repeat (first | refine blk_drewN ?_ _ | refine blk_drew ?_ | refine blk_alloc ?_ _)); exact BK429.out) hb); have n2_ := Aside0.mk (below_step (by repeat (first | (with_reducible first | exact HB.out | apply below_alloc | apply pw_below_drewN | apply below_drew1 | refine below_set ?_ GE428.out | refine below_set ?_ GE429.out) | exact HB.out)) hb); have n3_ := Aside0.mk (hbox); have n4_ := Aside0.mk ((by rw [hg]; exact (below_size (by repeat (first | (with_reducible first | exact HB.out | apply below_alloc | apply pw_below_drewN | apply below_drew1 | refine below_set ?_ GE428.out | refine below_set ?_ GE429.out) | exact HB.out))) : w.heap.size ≤ gb431)); have n5_ := Aside0.mk ((by rw [hg]; exact (below_size (by repeat (first | (with_reducible first | exact HB.out | apply below_alloc | apply pw_below_drewN | apply below_drew1 | refine below_set ?_ GE428.out | refine below_set ?_ GE429.out) | exact HB.out))) : w.heap.size ≤ gb431)); have n6_ := Aside0.mk ((by rw [hg]; exact Nat.ne_of_lt (blk_lt (g := gb428) (o := .cells #[.int .i64 x429000_1, .int .i64 x429001_1, .int .i64 x429002_1] 83 (0, 0)) (by (with_reducible repeat (first | refine blk_drewN ?_ _ | refine blk_drew ?_ | refine blk_alloc ?_ _)); exact BK428.out)) : gb428 ≠ gb431)); have n7_ := Aside0.mk ((by rw [hg]; exact Nat.ne_of_gt (blk_lt (g := gb428) (o := .cells #[.int .i64 x429000_1, .int .i64 x429001_1, .int .i64 x429002_1] 83 (0, 0)) (by (with_reducible repeat (first | refine blk_drewN ?_ _ | refine blk_drew ?_ | refine blk_alloc ?_ _)); exact BK428.out)) : gb431 ≠ gb428)); have n8_ := Aside0.mk ((by rw [hg]; exact Nat.ne_of_lt (blk_lt (g := gb429) (o := .cells #[.int .i64 x430000_1, .int .i64 x430001_1, .int .i64 x430002_1] 83 (0, 0)) (by (with_reducible repeat (first | refine blk_drewN ?_ _ | refine blk_drew ?_ | refine blk_alloc ?_ _)); exact BK429.out)) : gb429 ≠ gb431)); have n9_ := Aside0.mk ((by rw [hg]; exact Nat.ne_of_gt (blk_lt (g := gb429) (o := .cells #[.int .i64 x430000_1, .int .i64 x430001_1, .int .i64 x430002_1] 83 (0, 0)) (by (with_reducible repeat (first | refine blk_drewN ?_ _ | refine blk_drew ?_ | refine blk_alloc ?_ _)); exact BK429.out)) : gb431 ≠ gb429)); clear BK428; clear BK429; clear HB; have BK428 := n0_; have BK429 := n1_; have HB := n2_; have BK431 := n3_; have GW431 := n4_; have GE431 := n5_; have NB428_431 := n6_; have NB431_428 := n7_; have NB429_431 := n8_; have NB431_429 := n9_; clear n0_ n1_ n2_ n3_ n4_ n5_ n6_ n7_ n8_ n9_; clear hb hbox hg; have hnb39 := NB431_428.out; have hnc39 := NB428_431.out; have hnb40 := NB431_429.out; have hnc40 := NB429_431.out; have hcz41_0 : w38.cell? ⟨gb431, 0, none⟩ = some (.int .i64 0) := (blk_cell BK431.out 0).trans rfl; have hcz41_1 : w38.cell? ⟨gb431, 1, none⟩ = some (.int .i64 0) := (blk_cell BK431.out 1).trans rfl; have hfz41_0 := blk_frozen BK431.out 0; have hfz41_1 := blk_frozen BK431.out 1; have hnb42 := NB429_428.out; have hnc42 := NB428_429.out; have hcz43_0 : w38.cell? ⟨gb429, 0, none⟩ = some (.int .i64 x430000_1) := (blk_cell BK429.out 0).trans rfl; have hcz43_1 : w38.cell? ⟨gb429, 1, none⟩ = some (.int .i64 x430001_1) := (blk_cell BK429.out 1).trans rfl; have hcz43_2 : w38.cell? ⟨gb429, 2, none⟩ = some (.int .i64 x430002_1) := (blk_cell BK429.out 2).trans rfl; have hfz43_0 := blk_frozen BK429.out 0; have hfz43_1 := blk_frozen BK429.out 1; have hfz43_2 := blk_frozen BK429.out 2))
                      go_roundg k1
                      case measure => have := HK1.out; omega
                      case rel => exact ⟨(wrap64 (x13_1 + 1)), (x429000_1), (x429001_1), (x429002_1), (wrap64 (x430000_1 + 1)), (wrap64 (x430001_1 + ((rd_T81 l0 x13_1).f1))), (wrap64 (x430002_1 + ((rd_T81 l0 x13_1).f0))), (by first | rfl | (simp; done) | (simp [*]; done)), H', ⟨by have := HK1.out; omega⟩, ⟨by (with_reducible repeat (first | refine blk_drewN ?_ _ | refine blk_drew ?_ | refine blk_alloc ?_ _)); refine blk_far ?_ NB428_429.out _; (with_reducible repeat (first | refine blk_drewN ?_ _ | refine blk_drew ?_ | refine blk_alloc ?_ _)); refine blk_far ?_ NB428_429.out _; (with_reducible repeat (first | refine blk_drewN ?_ _ | refine blk_drew ?_ | refine blk_alloc ?_ _)); refine blk_far ?_ NB428_429.out _; (with_reducible repeat (first | refine blk_drewN ?_ _ | refine blk_drew ?_ | refine blk_alloc ?_ _)); refine blk_far ?_ NB428_431.out _; (with_reducible repeat (first | refine blk_drewN ?_ _ | refine blk_drew ?_ | refine blk_alloc ?_ _)); refine blk_far ?_ NB428_431.out _; (with_reducible repeat (first | refine blk_drewN ?_ _ | refine blk_drew ?_ | refine blk_alloc ?_ _)); exact BK428.out⟩, ⟨by (with_reducible repeat (first | refine blk_drewN ?_ _ | refine blk_drew ?_ | refine blk_alloc ?_ _)); refine blk_put (cs := #[.int .i64 (wrap64 (x430000_1 + 1)), .int .i64 (wrap64 (x430001_1 + ((rd_T81 l0 x13_1).f1))), .int .i64 x430002_1]) ?_ 2 _ rfl; (with_reducible repeat (first | refine blk_drewN ?_ _ | refine blk_drew ?_ | refine blk_alloc ?_ _)); refine blk_put (cs := #[.int .i64 (wrap64 (x430000_1 + 1)), .int .i64 x430001_1, .int .i64 x430002_1]) ?_ 1 _ rfl; (with_reducible repeat (first | refine blk_drewN ?_ _ | refine blk_drew ?_ | refine blk_alloc ?_ _)); refine blk_put (cs := #[.int .i64 x430000_1, .int .i64 x430001_1, .int .i64 x430002_1]) ?_ 0 _ rfl; (with_reducible repeat (first | refine blk_drewN ?_ _ | refine blk_drew ?_ | refine blk_alloc ?_ _)); refine blk_far ?_ NB429_431.out _; (with_reducible repeat (first | refine blk_drewN ?_ _ | refine blk_drew ?_ | refine blk_alloc ?_ _)); refine blk_far ?_ NB429_431.out _; (with_reducible repeat (first | refine blk_drewN ?_ _ | refine blk_drew ?_ | refine blk_alloc ?_ _)); exact BK429.out⟩, ⟨by repeat (first | (with_reducible first | exact HB.out | apply below_alloc | apply pw_below_drewN | apply below_drew1 | refine below_set ?_ GE428.out | refine below_set ?_ GE429.out | refine below_set ?_ GE431.out) | exact HB.out)⟩⟩
            · rw [if_neg c9] at H
              exact absurd H (by simp)
          · rw [if_neg c8] at H
            exact absurd H (by simp)
        · rw [if_neg c7] at H
          have c7b0 : decide (x13_1 < (l0.length : Int)) = false := decide_eq_false c7
          clear c7
          simp only [Option.some.injEq, Prod.mk.injEq] at H
          obtain ⟨rfl, rfl, rfl, rfl⟩ := H
          have hnb44 := NB429_428.out
          have hnc44 := NB428_429.out
          have hcz45_0 : wr.cell? ⟨gb429, 0, none⟩ = some (.int .i64 x430000_1) := (blk_cell BK429.out 0).trans rfl
          have hcz45_1 : wr.cell? ⟨gb429, 1, none⟩ = some (.int .i64 x430001_1) := (blk_cell BK429.out 1).trans rfl
          have hcz45_2 : wr.cell? ⟨gb429, 2, none⟩ = some (.int .i64 x430002_1) := (blk_cell BK429.out 2).trans rfl
          have hfz45_0 := blk_frozen BK429.out 0
          have hfz45_1 := blk_frozen BK429.out 1
          have hfz45_2 := blk_frozen BK429.out 2
          have hcz46_0 : wr.cell? ⟨gb428, 0, none⟩ = some (.int .i64 x429000_1) := (blk_cell BK428.out 0).trans rfl
          have hcz46_1 : wr.cell? ⟨gb428, 1, none⟩ = some (.int .i64 x429001_1) := (blk_cell BK428.out 1).trans rfl
          have hcz46_2 : wr.cell? ⟨gb428, 2, none⟩ = some (.int .i64 x429002_1) := (blk_cell BK428.out 2).trans rfl
          have hfz46_0 := blk_frozen BK428.out 0
          have hfz46_1 := blk_frozen BK428.out 1
          have hfz46_2 := blk_frozen BK428.out 2
          go_wp2
          refine bodyPost_ret (results_ct rfl _ _ gb428 83 #[.int .i64 x430000_1, .int .i64 x430001_1, .int .i64 x430002_1] (0, 0) _ rfl (by (with_reducible repeat (first | refine blk_drewN ?_ _ | refine blk_drew ?_ | refine blk_alloc ?_ _)); refine blk_put (cs := #[.int .i64 x430000_1, .int .i64 x430001_1, .int .i64 x429002_1]) ?_ 2 _ rfl; (with_reducible repeat (first | refine blk_drewN ?_ _ | refine blk_drew ?_ | refine blk_alloc ?_ _)); refine blk_put (cs := #[.int .i64 x430000_1, .int .i64 x429001_1, .int .i64 x429002_1]) ?_ 1 _ rfl; (with_reducible repeat (first | refine blk_drewN ?_ _ | refine blk_drew ?_ | refine blk_alloc ?_ _)); refine blk_put (cs := #[.int .i64 x429000_1, .int .i64 x429001_1, .int .i64 x429002_1]) ?_ 0 _ rfl; (with_reducible repeat (first | refine blk_drewN ?_ _ | refine blk_drew ?_ | refine blk_alloc ?_ _)); exact BK428.out) Try.underlying83 rfl (by kernel_rfl)) rfl ?_
          exact ⟨by first | rfl | (simp [errW_none, errW_some] <;> rfl) | (simp [*, errW_none, errW_some] <;> rfl), by repeat (first | (with_reducible first | exact HB.out | apply below_alloc | apply pw_below_drewN | apply below_drew1 | refine below_set ?_ GE428.out | refine below_set ?_ GE429.out) | exact HB.out)⟩

/-! ### ledger_Paid: function 29 -/
def ledger_Paid.j0 : Nat → Int → List (S81) → Bool → Option ((List (S42)) × Int)
  | 0, _, _, _ => none
  | k + 1, x0, x1, x13 => if x13 = true then (some (([] : List (S42)), 2)) else ((control_Of.f k x1).bind fun bt432 => (if bt432.2.2.2 = 0 then (if bt432.2.1 > 1000000000000 then (some (([] : List (S42)), 4)) else (if bt432.2.1 = 0 then (some (([] : List (S42)), 0)) else (some ((([(⟨x0, 100, bt432.2.1⟩ : S42), (⟨x0, 108, wrap64 (-bt432.2.1)⟩ : S42)] : List (S42))), 0)))) else (some (([] : List (S42)), bt432.2.2.2))))
def ledger_Paid.f (k : Nat) (a0 : Int) (l1 : List (S81)) : Option ((List (S42)) × Int) := if a0 < 0 then (ledger_Paid.j0 k a0 l1 true) else (ledger_Paid.j0 k a0 l1 (decide (a0 > 256)))
theorem ledger_Paid.mono_l : ∀ k, (∀ y0 y1 y2, LeO (ledger_Paid.j0 k y0 y1 y2) (ledger_Paid.j0 (k + 1) y0 y1 y2))
  | 0 => fun _ _ _ r h => by simp [ledger_Paid.j0] at h
  | k + 1 => by
    have ih0 := ledger_Paid.mono_l k
    · intro y0 y1 y2
      unfold ledger_Paid.j0
      repeat' first
      | (with_reducible exact ih0 _ _ _)
      | (with_reducible exact control_Of.mono _ _)
      | (with_reducible exact LeO.refl _)
      | (with_reducible exact LeO.none _)
      | (with_reducible refine LeO.ite ?_ ?_)
      | (with_reducible refine LeO.bind ?_ (fun _ => ?_))
      | exact ih0 _ _ _
      | exact control_Of.mono _ _
      | exact LeO.none _
      | refine LeO.ite ?_ ?_
      | refine LeO.bind ?_ (fun _ => ?_)
theorem ledger_Paid.mono : ∀ a0 a1 k, LeO (ledger_Paid.f k a0 a1) (ledger_Paid.f (k + 1) a0 a1) := by
  intro a0 a1 k
  have ih0 := ledger_Paid.mono_l k
  unfold ledger_Paid.f
  repeat' first
      | (with_reducible exact ih0 _ _ _)
      | (with_reducible exact control_Of.mono _ _)
      | (with_reducible exact LeO.refl _)
      | (with_reducible exact LeO.none _)
      | (with_reducible refine LeO.ite ?_ ?_)
      | (with_reducible refine LeO.bind ?_ (fun _ => ?_))
      | exact ih0 _ _ _
      | exact control_Of.mono _ _
      | exact LeO.none _
      | refine LeO.ite ?_ ?_
      | refine LeO.bind ?_ (fun _ => ?_)
set_option maxHeartbeats 8000000 in
set_option maxRecDepth 100000 in
theorem ledger_Paid.calls (k : Nat) (a0 : Int) (A1 : Option Addr) (c1 : Nat) (l1 : List (S81)) (r1 : List (S42)) (r2 : Int) (w : World) (hr1 : Kd.C k81 w A1 l1.length l1) (hc1 : l1.length ≤ c1) (h : ledger_Paid.f k a0 l1 = some (r1, r2)) :
    Calls Try.prog 29 #[.int .i64 a0, .slice A1 l1.length c1] w fun e w' => ∃ v0_ : Value, e = .returned (.tuple #[v0_, .int .i64 r2]) ∧ Kd.R k42 42 w' w.heap.size (fun _ => True) v0_ r1 ∧ Below w.heap.size w w' := by
  have hu83 := Try.underlying83
  have hu42 := Try.underlying42
  have HR1 := Aside0.mk hr1
  have HC1 := Aside0.mk hc1
  clear hr1 hc1
  have HB := Aside0.mk (Below.refl w.heap.size w)
  have H : (if a0 < 0 then (ledger_Paid.j0 k a0 l1 true) else (ledger_Paid.j0 k a0 l1 (decide (a0 > 256)))) = some (r1, r2) := h
  clear h
  have HC3 := Aside0.mk H
  clear H
  go_enter Try.func29, Try.ntmps29
  go_upto_region 1 with (fail)
  go_cut [13] (fun v13 wc => ∃ (kq : Nat) (x13_2 : Bool), v13 = .bool x13_2 ∧ Aside0 (ledger_Paid.j0 kq a0 l1 x13_2 = some (r1, r2)) ∧ Aside0 (kq ≤ k) ∧ Aside0 (Below w.heap.size w wc))
  case first =>
    have H := HC3.out
    clear HC3
    by_cases c4 : a0 < 0
    · rw [if_pos c4] at H
      have c4b0 : decide (a0 < 0) = true := decide_eq_true c4
      clear c4
      (first | rw [c4b0] | (simp only [i64_w, i32_w]; rw [c4b0]) | skip)
      have H' := Aside0.mk H
      clear H
      go_wp2
      go_meet
      case rel => exact ⟨_, (true), (by first | rfl | (simp; done) | (simp [*]; done)), H', ⟨by first | omega | exact Nat.le_refl _⟩, ⟨by repeat (first | (with_reducible first | exact HB.out | apply below_alloc | apply pw_below_drewN | apply below_drew1) | exact HB.out)⟩⟩
    · rw [if_neg c4] at H
      have c4b0 : decide (a0 < 0) = false := decide_eq_false c4
      clear c4
      (first | rw [c4b0] | (simp only [i64_w, i32_w]; rw [c4b0]) | skip)
      have H' := Aside0.mk H
      clear H
      go_wp2
      go_meet
      case rel => exact ⟨_, (decide (a0 > 256)), (by first | rfl | (simp; done) | (simp [*]; done)), H', ⟨by first | omega | exact Nat.le_refl _⟩, ⟨by repeat (first | (with_reducible first | exact HB.out | apply below_alloc | apply pw_below_drewN | apply below_drew1) | exact HB.out)⟩⟩
  case rest =>
    clear HC3
    try clear c1
    try clear c2
    try clear p2
    try clear c4
    try clear c4b0
    obtain ⟨kq, x13_2, rfl, HA, HJ2, HB⟩ := hcut
    cases kq with
    | zero => exact absurd HA.out (by simp [ledger_Paid.j0])
    | succ kj2 =>
      have H := HA.out
      clear HA
      simp only [ledger_Paid.j0] at H
      by_cases c5 : x13_2 = true
      · subst c5
        have H1 : (some (([] : List (S42)), 2)) = some (r1, r2) := by rw [if_pos rfl] at H; exact H
        clear H
        have H := H1
        clear H1
        simp only [Option.some.injEq, Prod.mk.injEq] at H
        obtain ⟨rfl, rfl⟩ := H
        go_wp2
        go_ret2
        exact ⟨_, by first | rfl | (simp [errW_none, errW_some] <;> rfl) | (simp [*, errW_none, errW_some] <;> rfl), by first | exact Kd.R_nil _ _ _ _ _ | exact Kd.N_nil _ _ _ _ _ | exact Kd.V_nil _ _ _ _ _ | exact Kd.Q_nil _ _ _ _ _ | exact Kd.S_nil _ _ _ _ _, by repeat (first | (with_reducible first | exact HB.out | apply below_alloc | apply pw_below_drewN | apply below_drew1) | exact HB.out)⟩
      · replace c5 := Bool.eq_false_iff.mpr c5
        subst c5
        have H1 : ((control_Of.f kj2 l1).bind fun bt432 => (if bt432.2.2.2 = 0 then (if bt432.2.1 > 1000000000000 then (some (([] : List (S42)), 4)) else (if bt432.2.1 = 0 then (some (([] : List (S42)), 0)) else (some ((([(⟨a0, 100, bt432.2.1⟩ : S42), (⟨a0, 108, wrap64 (-bt432.2.1)⟩ : S42)] : List (S42))), 0)))) else (some (([] : List (S42)), bt432.2.2.2)))) = some (r1, r2) := by rw [if_neg (show ¬ (false = true) by decide)] at H; exact H
        clear H
        have H := H1
        clear H1
        replace H := Option.bind_eq_some_iff.mp H
        obtain ⟨⟨t432, t433, t434, t435⟩, A60, H⟩ := H
        replace H : (if t435 = 0 then (if t433 > 1000000000000 then (some (([] : List (S42)), 4)) else (if t433 = 0 then (some (([] : List (S42)), 0)) else (some ((([(⟨a0, 100, t433⟩ : S42), (⟨a0, 108, wrap64 (-t433)⟩ : S42)] : List (S42))), 0)))) else (some (([] : List (S42)), t435))) = some (r1, r2) := H
        have A6 := Aside0.mk A60
        clear A60
        by_cases c7 : t435 = 0
        · rw [if_pos c7] at H
          have c7b0 : (t435 == 0) = true := beq_iff_eq.mpr c7
          have c7b1 : (t435 != 0) = false := bne_eq_false_iff_eq.mpr c7
          clear c7
          by_cases c8 : t433 > 1000000000000
          · rw [if_pos c8] at H
            have c8b0 : decide (1000000000000 < t433) = true := decide_eq_true c8
            clear c8
            simp only [Option.some.injEq, Prod.mk.injEq] at H
            obtain ⟨rfl, rfl⟩ := H
            go_wp2_with (first | ((with_reducible refine gate_callee (f := 48) rfl ?_); refine goesL_ (some 16) rfl rfl Try.func48 (by kernel_rfl) rfl #[.slice A1 l1.length c1] rfl (by (try simp only [List.map_toArray, List.map_cons, List.map_nil]); first | done | rfl | (simp only [List.length_drop, List.length_take]; rfl)) ?_; (with_reducible refine (control_Of.calls kj2 _ _ l1 t432 t433 t434 t435 _ ?side1 ?side2 A6.out).mono ?_); (case side1 => repeat (first | exact (Kd.C_below HR1.out HB.out) | (with_reducible refine Kd.C_alloc ?_ _) | (with_reducible refine Kd.C_drewN ?_ _) | (with_reducible refine Kd.C_drew ?_))); (case side2 => exact HC1.out); rintro e w9 ⟨rfl, hb⟩; refine ⟨_, rfl, ?_⟩; have n0_ := Aside0.mk (below_step (by repeat (first | (with_reducible first | exact HB.out | apply below_alloc | apply pw_below_drewN | apply below_drew1) | exact HB.out)) hb); clear HB; have HB := n0_; clear n0_; (try clear hb); (try clear hb2); (try clear hk); (try clear hi)) | ((with_reducible refine gate_dst (N := 6) rfl ?_); refine box_event ?hg (N := 6) ?hd (cs := #[.int .i64 0, .int .i64 0, .int .i64 0]) (t := 83) ?hr ?_; (case hd => rfl); (case hg => rfl); (case hr => first | (go_simp; done) | (go_simp; rfl)); intro gb436 hg w10 hbox hb; have n0_ := Aside0.mk (below_step (by repeat (first | (with_reducible first | exact HB.out | apply below_alloc | apply pw_below_drewN | apply below_drew1) | exact HB.out)) hb); have n1_ := Aside0.mk (hbox); have n2_ := Aside0.mk ((by rw [hg]; exact (below_size (by repeat (first | (with_reducible first | exact HB.out | apply below_alloc | apply pw_below_drewN | apply below_drew1) | exact HB.out))) : w.heap.size ≤ gb436)); have n3_ := Aside0.mk ((by rw [hg]; exact (below_size (by repeat (first | (with_reducible first | exact HB.out | apply below_alloc | apply pw_below_drewN | apply below_drew1) | exact HB.out))) : w.heap.size ≤ gb436)); clear HB; have HB := n0_; have BK436 := n1_; have GW436 := n2_; have GE436 := n3_; clear n0_ n1_ n2_ n3_; clear hb hbox hg; have hcz11_0 : w10.cell? ⟨gb436, 0, none⟩ = some (.int .i64 0) := (blk_cell BK436.out 0).trans rfl; have hcz11_1 : w10.cell? ⟨gb436, 1, none⟩ = some (.int .i64 0) := (blk_cell BK436.out 1).trans rfl; have hcz11_2 : w10.cell? ⟨gb436, 2, none⟩ = some (.int .i64 0) := (blk_cell BK436.out 2).trans rfl; have hfz11_0 := blk_frozen BK436.out 0; have hfz11_1 := blk_frozen BK436.out 1; have hfz11_2 := blk_frozen BK436.out 2))
            go_ret2
            exact ⟨_, by first | rfl | (simp [errW_none, errW_some] <;> rfl) | (simp [*, errW_none, errW_some] <;> rfl), by first | exact Kd.R_nil _ _ _ _ _ | exact Kd.N_nil _ _ _ _ _ | exact Kd.V_nil _ _ _ _ _ | exact Kd.Q_nil _ _ _ _ _ | exact Kd.S_nil _ _ _ _ _, by repeat (first | (with_reducible first | exact HB.out | apply below_alloc | apply pw_below_drewN | apply below_drew1 | refine below_set ?_ GE436.out) | exact HB.out)⟩
          · rw [if_neg c8] at H
            have c8b0 : decide (1000000000000 < t433) = false := decide_eq_false c8
            clear c8
            by_cases c12 : t433 = 0
            · rw [if_pos c12] at H
              have c12b0 : (t433 == 0) = true := beq_iff_eq.mpr c12
              have c12b1 : (t433 != 0) = false := bne_eq_false_iff_eq.mpr c12
              clear c12
              simp only [Option.some.injEq, Prod.mk.injEq] at H
              obtain ⟨rfl, rfl⟩ := H
              go_wp2_with (first | ((with_reducible refine gate_callee (f := 48) rfl ?_); refine goesL_ (some 16) rfl rfl Try.func48 (by kernel_rfl) rfl #[.slice A1 l1.length c1] rfl (by (try simp only [List.map_toArray, List.map_cons, List.map_nil]); first | done | rfl | (simp only [List.length_drop, List.length_take]; rfl)) ?_; (with_reducible refine (control_Of.calls kj2 _ _ l1 t432 t433 t434 t435 _ ?side1 ?side2 A6.out).mono ?_); (case side1 => repeat (first | exact (Kd.C_below HR1.out HB.out) | (with_reducible refine Kd.C_alloc ?_ _) | (with_reducible refine Kd.C_drewN ?_ _) | (with_reducible refine Kd.C_drew ?_))); (case side2 => exact HC1.out); rintro e w13 ⟨rfl, hb⟩; refine ⟨_, rfl, ?_⟩; have n0_ := Aside0.mk (below_step (by repeat (first | (with_reducible first | exact HB.out | apply below_alloc | apply pw_below_drewN | apply below_drew1) | exact HB.out)) hb); clear HB; have HB := n0_; clear n0_; (try clear hb); (try clear hb2); (try clear hk); (try clear hi)) | ((with_reducible refine gate_dst (N := 6) rfl ?_); refine box_event ?hg (N := 6) ?hd (cs := #[.int .i64 0, .int .i64 0, .int .i64 0]) (t := 83) ?hr ?_; (case hd => rfl); (case hg => rfl); (case hr => first | (go_simp; done) | (go_simp; rfl)); intro gb436 hg w14 hbox hb; have n0_ := Aside0.mk (below_step (by repeat (first | (with_reducible first | exact HB.out | apply below_alloc | apply pw_below_drewN | apply below_drew1) | exact HB.out)) hb); have n1_ := Aside0.mk (hbox); have n2_ := Aside0.mk ((by rw [hg]; exact (below_size (by repeat (first | (with_reducible first | exact HB.out | apply below_alloc | apply pw_below_drewN | apply below_drew1) | exact HB.out))) : w.heap.size ≤ gb436)); have n3_ := Aside0.mk ((by rw [hg]; exact (below_size (by repeat (first | (with_reducible first | exact HB.out | apply below_alloc | apply pw_below_drewN | apply below_drew1) | exact HB.out))) : w.heap.size ≤ gb436)); clear HB; have HB := n0_; have BK436 := n1_; have GW436 := n2_; have GE436 := n3_; clear n0_ n1_ n2_ n3_; clear hb hbox hg; have hcz15_0 : w14.cell? ⟨gb436, 0, none⟩ = some (.int .i64 0) := (blk_cell BK436.out 0).trans rfl; have hcz15_1 : w14.cell? ⟨gb436, 1, none⟩ = some (.int .i64 0) := (blk_cell BK436.out 1).trans rfl; have hcz15_2 : w14.cell? ⟨gb436, 2, none⟩ = some (.int .i64 0) := (blk_cell BK436.out 2).trans rfl; have hfz15_0 := blk_frozen BK436.out 0; have hfz15_1 := blk_frozen BK436.out 1; have hfz15_2 := blk_frozen BK436.out 2))
              go_ret2
              exact ⟨_, by first | rfl | (simp [errW_none, errW_some] <;> rfl) | (simp [*, errW_none, errW_some] <;> rfl), by first | exact Kd.R_nil _ _ _ _ _ | exact Kd.N_nil _ _ _ _ _ | exact Kd.V_nil _ _ _ _ _ | exact Kd.Q_nil _ _ _ _ _ | exact Kd.S_nil _ _ _ _ _, by repeat (first | (with_reducible first | exact HB.out | apply below_alloc | apply pw_below_drewN | apply below_drew1 | refine below_set ?_ GE436.out) | exact HB.out)⟩
            · rw [if_neg c12] at H
              have c12b0 : (t433 == 0) = false := beq_eq_false_iff_ne.mpr c12
              have c12b1 : (t433 != 0) = true := bne_iff_ne.mpr c12
              obtain ⟨y437, hy437⟩ : ∃ y_ : List (S42), y_ = (([(⟨a0, 100, t433⟩ : S42), (⟨a0, 108, wrap64 (-t433)⟩ : S42)] : List (S42))) := ⟨_, rfl⟩
              replace H : (some (y437, 0)) = some (r1, r2) := by first | (rw [hy437]; with_reducible exact H) | (have H2_ := (Option.bind_some _ _).symm.trans H; rw [hy437]; with_reducible exact H2_) | (have H2_ := (Option.bind_some _ _).symm.trans H; with_reducible exact H2_) | with_reducible exact H | (rw [hy437]; exact H) | exact H
              have Ny437 := Aside0.mk hy437
              clear hy437
              simp only [Option.some.injEq, Prod.mk.injEq] at H
              obtain ⟨rfl, rfl⟩ := H
              go_wp2_with (first | ((with_reducible refine gate_callee (f := 48) rfl ?_); refine goesL_ (some 16) rfl rfl Try.func48 (by kernel_rfl) rfl #[.slice A1 l1.length c1] rfl (by (try simp only [List.map_toArray, List.map_cons, List.map_nil]); first | done | rfl | (simp only [List.length_drop, List.length_take]; rfl)) ?_; (with_reducible refine (control_Of.calls kj2 _ _ l1 t432 t433 t434 t435 _ ?side1 ?side2 A6.out).mono ?_); (case side1 => repeat (first | exact (Kd.C_below HR1.out HB.out) | (with_reducible refine Kd.C_alloc ?_ _) | (with_reducible refine Kd.C_drewN ?_ _) | (with_reducible refine Kd.C_drew ?_))); (case side2 => exact HC1.out); rintro e w16 ⟨rfl, hb⟩; refine ⟨_, rfl, ?_⟩; have n0_ := Aside0.mk (below_step (by repeat (first | (with_reducible first | exact HB.out | apply below_alloc | apply pw_below_drewN | apply below_drew1) | exact HB.out)) hb); clear HB; have HB := n0_; clear n0_; (try clear hb); (try clear hb2); (try clear hk); (try clear hi)) | ((with_reducible refine gate_dst (N := 6) rfl ?_); refine box_event ?hg (N := 6) ?hd (cs := #[.int .i64 0, .int .i64 0, .int .i64 0]) (t := 83) ?hr ?_; (case hd => rfl); (case hg => rfl); (case hr => first | (go_simp; done) | (go_simp; rfl)); intro gb436 hg w17 hbox hb; have n0_ := Aside0.mk (below_step (by repeat (first | (with_reducible first | exact HB.out | apply below_alloc | apply pw_below_drewN | apply below_drew1) | exact HB.out)) hb); have n1_ := Aside0.mk (hbox); have n2_ := Aside0.mk ((by rw [hg]; exact (below_size (by repeat (first | (with_reducible first | exact HB.out | apply below_alloc | apply pw_below_drewN | apply below_drew1) | exact HB.out))) : w.heap.size ≤ gb436)); have n3_ := Aside0.mk ((by rw [hg]; exact (below_size (by repeat (first | (with_reducible first | exact HB.out | apply below_alloc | apply pw_below_drewN | apply below_drew1) | exact HB.out))) : w.heap.size ≤ gb436)); clear HB; have HB := n0_; have BK436 := n1_; have GW436 := n2_; have GE436 := n3_; clear n0_ n1_ n2_ n3_; clear hb hbox hg; have hcz18_0 : w17.cell? ⟨gb436, 0, none⟩ = some (.int .i64 0) := (blk_cell BK436.out 0).trans rfl; have hcz18_1 : w17.cell? ⟨gb436, 1, none⟩ = some (.int .i64 0) := (blk_cell BK436.out 1).trans rfl; have hcz18_2 : w17.cell? ⟨gb436, 2, none⟩ = some (.int .i64 0) := (blk_cell BK436.out 2).trans rfl; have hfz18_0 := blk_frozen BK436.out 0; have hfz18_1 := blk_frozen BK436.out 1; have hfz18_2 := blk_frozen BK436.out 2) | ((with_reducible refine gate_dst (N := 37) rfl ?_); refine Kd.R_lit k42 _ 42 ?hg (N := 37) ?hd (xs := ([(⟨a0, 100, t433⟩ : S42), (⟨a0, 108, wrap64 (-t433)⟩ : S42)] : List (S42))) (inner := [.int .i64 a0, .int .i64 100, .int .i64 t433, .int .i64 a0, .int .i64 108, .int .i64 (wrap64 (-t433))]) (ok := fun _ => True) (okp := fun _ => True) ?hr ?hp (fun _ hk => hk) trivial (Below.refl _ _) (Nat.le_refl _) (by simp) ?_; (case hd => rfl); (case hg => rfl); (case hr => first | (go_simp; done) | (go_simp; rfl)); (case hp => exact (Reps.c3 (show Kd.M k42 _ _ _ (⟨a0, 100, t433⟩ : S42) [.int .i64 a0, .int .i64 100, .int .i64 t433] from (k42_mkM _ _ _ (⟨a0, 100, t433⟩ : S42) )) (Reps.c3 (show Kd.M k42 _ _ _ (⟨a0, 108, wrap64 (-t433)⟩ : S42) [.int .i64 a0, .int .i64 108, .int .i64 (wrap64 (-t433))] from (k42_mkM _ _ _ (⟨a0, 108, wrap64 (-t433)⟩ : S42) )) (Reps.none _ _)))); intro v438 w19 ho20 hb hg_ hnew_; clear hg_ hnew_; (first | rw [← Ny437.out] at ho20 | (simp only [Int.reduceToNat] at ho20; rw [← Ny437.out] at ho20)); have n0_ := Aside0.mk (Kd.R_lower ho20 (below_size (by repeat (first | (with_reducible first | exact HB.out | apply below_alloc | apply pw_below_drewN | apply below_drew1 | refine below_set ?_ GE436.out) | exact HB.out)))); have n1_ := Aside0.mk (blk_below (g := gb436) (o := .cells #[.int .i64 t432, .int .i64 t433, .int .i64 t434] 83 (0, 0)) (by (with_reducible repeat (first | refine blk_drewN ?_ _ | refine blk_drew ?_ | refine blk_alloc ?_ _)); refine blk_put (cs := #[.int .i64 t432, .int .i64 t433, .int .i64 0]) ?_ 2 _ rfl; (with_reducible repeat (first | refine blk_drewN ?_ _ | refine blk_drew ?_ | refine blk_alloc ?_ _)); refine blk_put (cs := #[.int .i64 t432, .int .i64 0, .int .i64 0]) ?_ 1 _ rfl; (with_reducible repeat (first | refine blk_drewN ?_ _ | refine blk_drew ?_ | refine blk_alloc ?_ _)); refine blk_put (cs := #[.int .i64 0, .int .i64 0, .int .i64 0]) ?_ 0 _ rfl; (with_reducible repeat (first | refine blk_drewN ?_ _ | refine blk_drew ?_ | refine blk_alloc ?_ _)); exact BK436.out) hb); have n2_ := Aside0.mk (below_step (by repeat (first | (with_reducible first | exact HB.out | apply below_alloc | apply pw_below_drewN | apply below_drew1 | refine below_set ?_ GE436.out) | exact HB.out)) hb); clear BK436; clear HB; have HO439 := n0_; have BK436 := n1_; have HB := n2_; clear n0_ n1_ n2_; clear hb ho20))
              go_ret2
              exact ⟨_, by first | rfl | (simp [errW_none, errW_some] <;> rfl) | (simp [*, errW_none, errW_some] <;> rfl), by (with_reducible repeat (first | apply Kd.R_alloc | apply Kd.R_drewN | apply Kd.R_drew)); exact HO439.out, by repeat (first | (with_reducible first | exact HB.out | apply below_alloc | apply pw_below_drewN | apply below_drew1 | refine below_set ?_ GE436.out) | exact HB.out)⟩
        · rw [if_neg c7] at H
          have c7b0 : (t435 == 0) = false := beq_eq_false_iff_ne.mpr c7
          have c7b1 : (t435 != 0) = true := bne_iff_ne.mpr c7
          simp only [Option.some.injEq, Prod.mk.injEq] at H
          obtain ⟨rfl, rfl⟩ := H
          go_wp2_with (first | ((with_reducible refine gate_callee (f := 48) rfl ?_); refine goesL_ (some 16) rfl rfl Try.func48 (by kernel_rfl) rfl #[.slice A1 l1.length c1] rfl (by (try simp only [List.map_toArray, List.map_cons, List.map_nil]); first | done | rfl | (simp only [List.length_drop, List.length_take]; rfl)) ?_; (with_reducible refine (control_Of.calls kj2 _ _ l1 t432 t433 t434 t435 _ ?side1 ?side2 A6.out).mono ?_); (case side1 => repeat (first | exact (Kd.C_below HR1.out HB.out) | (with_reducible refine Kd.C_alloc ?_ _) | (with_reducible refine Kd.C_drewN ?_ _) | (with_reducible refine Kd.C_drew ?_))); (case side2 => exact HC1.out); rintro e w21 ⟨rfl, hb⟩; refine ⟨_, rfl, ?_⟩; have n0_ := Aside0.mk (below_step (by repeat (first | (with_reducible first | exact HB.out | apply below_alloc | apply pw_below_drewN | apply below_drew1) | exact HB.out)) hb); clear HB; have HB := n0_; clear n0_; (try clear hb); (try clear hb2); (try clear hk); (try clear hi)) | ((with_reducible refine gate_dst (N := 6) rfl ?_); refine box_event ?hg (N := 6) ?hd (cs := #[.int .i64 0, .int .i64 0, .int .i64 0]) (t := 83) ?hr ?_; (case hd => rfl); (case hg => rfl); (case hr => first | (go_simp; done) | (go_simp; rfl)); intro gb436 hg w22 hbox hb; have n0_ := Aside0.mk (below_step (by repeat (first | (with_reducible first | exact HB.out | apply below_alloc | apply pw_below_drewN | apply below_drew1) | exact HB.out)) hb); have n1_ := Aside0.mk (hbox); have n2_ := Aside0.mk ((by rw [hg]; exact (below_size (by repeat (first | (with_reducible first | exact HB.out | apply below_alloc | apply pw_below_drewN | apply below_drew1) | exact HB.out))) : w.heap.size ≤ gb436)); have n3_ := Aside0.mk ((by rw [hg]; exact (below_size (by repeat (first | (with_reducible first | exact HB.out | apply below_alloc | apply pw_below_drewN | apply below_drew1) | exact HB.out))) : w.heap.size ≤ gb436)); clear HB; have HB := n0_; have BK436 := n1_; have GW436 := n2_; have GE436 := n3_; clear n0_ n1_ n2_ n3_; clear hb hbox hg; have hcz23_0 : w22.cell? ⟨gb436, 0, none⟩ = some (.int .i64 0) := (blk_cell BK436.out 0).trans rfl; have hcz23_1 : w22.cell? ⟨gb436, 1, none⟩ = some (.int .i64 0) := (blk_cell BK436.out 1).trans rfl; have hcz23_2 : w22.cell? ⟨gb436, 2, none⟩ = some (.int .i64 0) := (blk_cell BK436.out 2).trans rfl; have hfz23_0 := blk_frozen BK436.out 0; have hfz23_1 := blk_frozen BK436.out 1; have hfz23_2 := blk_frozen BK436.out 2))
          go_ret2
          exact ⟨_, by first | rfl | (simp [errW_none, errW_some] <;> rfl) | (simp [*, errW_none, errW_some] <;> rfl), by first | exact Kd.R_nil _ _ _ _ _ | exact Kd.N_nil _ _ _ _ _ | exact Kd.V_nil _ _ _ _ _ | exact Kd.Q_nil _ _ _ _ _ | exact Kd.S_nil _ _ _ _ _, by repeat (first | (with_reducible first | exact HB.out | apply below_alloc | apply pw_below_drewN | apply below_drew1 | refine below_set ?_ GE436.out) | exact HB.out)⟩

/-! ### payrollref39_Valid: function 61 -/
def payrollref39_Valid.f (a0_0 : Int) (a0_1 : Int) : Option (Bool) := if a0_0 ≥ 1 then (if a0_0 ≤ 2147483647 then (if a0_1 ≥ 1 then (some (decide (a0_1 ≤ 1000000000000))) else (some false)) else (some false)) else (some false)
set_option maxHeartbeats 8000000 in
set_option maxRecDepth 100000 in
theorem payrollref39_Valid.calls (a0_0 : Int) (a0_1 : Int) (r : Bool) (w : World) (h : payrollref39_Valid.f a0_0 a0_1 = some r) :
    Calls Try.prog 61 #[.agg #[.int .i64 a0_0, .int .i64 a0_1]] w fun e w' => e = .returned (.bool r) ∧ Below w.heap.size w w' := by
  have hu81 := Try.underlying81
  have HB := Aside0.mk (Below.refl w.heap.size w)
  have H : (if a0_0 ≥ 1 then (if a0_0 ≤ 2147483647 then (if a0_1 ≥ 1 then (some (decide (a0_1 ≤ 1000000000000))) else (some false)) else (some false)) else (some false)) = some r := h
  clear h
  by_cases c2 : a0_0 ≥ 1
  · rw [if_pos c2] at H
    have c2b0 : decide (1 ≤ a0_0) = true := decide_eq_true c2
    clear c2
    by_cases c3 : a0_0 ≤ 2147483647
    · rw [if_pos c3] at H
      have c3b0 : decide (a0_0 ≤ 2147483647) = true := decide_eq_true c3
      clear c3
      by_cases c4 : a0_1 ≥ 1
      · rw [if_pos c4] at H
        have c4b0 : decide (1 ≤ a0_1) = true := decide_eq_true c4
        clear c4
        obtain rfl := Option.some.inj H
        go_enter Try.func61, Try.ntmps61
        go_wp2_with (first | ((with_reducible refine gate_dst (N := 1) rfl ?_); refine box_event ?hg (N := 1) ?hd (cs := #[.int .i64 a0_0, .int .i64 a0_1]) (t := 81) ?hr ?_; (case hd => rfl); (case hg => rfl); (case hr => first | (go_simp; done) | (go_simp; rfl)); intro gb440 hg w5 hbox hb; have n0_ := Aside0.mk (below_step (by repeat (first | (with_reducible first | exact HB.out | apply below_alloc | apply pw_below_drewN | apply below_drew1) | exact HB.out)) hb); have n1_ := Aside0.mk (hbox); have n2_ := Aside0.mk ((by rw [hg]; exact (below_size (by repeat (first | (with_reducible first | exact HB.out | apply below_alloc | apply pw_below_drewN | apply below_drew1) | exact HB.out))) : w.heap.size ≤ gb440)); have n3_ := Aside0.mk ((by rw [hg]; exact (below_size (by repeat (first | (with_reducible first | exact HB.out | apply below_alloc | apply pw_below_drewN | apply below_drew1) | exact HB.out))) : w.heap.size ≤ gb440)); clear HB; have HB := n0_; have BK440 := n1_; have GW440 := n2_; have GE440 := n3_; clear n0_ n1_ n2_ n3_; clear hb hbox hg; have hcz6_0 : w5.cell? ⟨gb440, 0, none⟩ = some (.int .i64 a0_0) := (blk_cell BK440.out 0).trans rfl; have hcz6_1 : w5.cell? ⟨gb440, 1, none⟩ = some (.int .i64 a0_1) := (blk_cell BK440.out 1).trans rfl; have hfz6_0 := blk_frozen BK440.out 0; have hfz6_1 := blk_frozen BK440.out 1))
        go_ret
        exact ⟨by first | rfl | (simp [errW_none, errW_some] <;> rfl) | (simp [*, errW_none, errW_some] <;> rfl), by repeat (first | (with_reducible first | exact HB.out | apply below_alloc | apply pw_below_drewN | apply below_drew1 | refine below_set ?_ GE440.out) | exact HB.out)⟩
      · rw [if_neg c4] at H
        have c4b0 : decide (1 ≤ a0_1) = false := decide_eq_false c4
        clear c4
        obtain rfl := Option.some.inj H
        go_enter Try.func61, Try.ntmps61
        go_wp2_with (first | ((with_reducible refine gate_dst (N := 1) rfl ?_); refine box_event ?hg (N := 1) ?hd (cs := #[.int .i64 a0_0, .int .i64 a0_1]) (t := 81) ?hr ?_; (case hd => rfl); (case hg => rfl); (case hr => first | (go_simp; done) | (go_simp; rfl)); intro gb440 hg w7 hbox hb; have n0_ := Aside0.mk (below_step (by repeat (first | (with_reducible first | exact HB.out | apply below_alloc | apply pw_below_drewN | apply below_drew1) | exact HB.out)) hb); have n1_ := Aside0.mk (hbox); have n2_ := Aside0.mk ((by rw [hg]; exact (below_size (by repeat (first | (with_reducible first | exact HB.out | apply below_alloc | apply pw_below_drewN | apply below_drew1) | exact HB.out))) : w.heap.size ≤ gb440)); have n3_ := Aside0.mk ((by rw [hg]; exact (below_size (by repeat (first | (with_reducible first | exact HB.out | apply below_alloc | apply pw_below_drewN | apply below_drew1) | exact HB.out))) : w.heap.size ≤ gb440)); clear HB; have HB := n0_; have BK440 := n1_; have GW440 := n2_; have GE440 := n3_; clear n0_ n1_ n2_ n3_; clear hb hbox hg; have hcz8_0 : w7.cell? ⟨gb440, 0, none⟩ = some (.int .i64 a0_0) := (blk_cell BK440.out 0).trans rfl; have hcz8_1 : w7.cell? ⟨gb440, 1, none⟩ = some (.int .i64 a0_1) := (blk_cell BK440.out 1).trans rfl; have hfz8_0 := blk_frozen BK440.out 0; have hfz8_1 := blk_frozen BK440.out 1))
        go_ret
        exact ⟨by first | rfl | (simp [errW_none, errW_some] <;> rfl) | (simp [*, errW_none, errW_some] <;> rfl), by repeat (first | (with_reducible first | exact HB.out | apply below_alloc | apply pw_below_drewN | apply below_drew1 | refine below_set ?_ GE440.out) | exact HB.out)⟩
    · rw [if_neg c3] at H
      have c3b0 : decide (a0_0 ≤ 2147483647) = false := decide_eq_false c3
      clear c3
      obtain rfl := Option.some.inj H
      go_enter Try.func61, Try.ntmps61
      go_wp2_with (first | ((with_reducible refine gate_dst (N := 1) rfl ?_); refine box_event ?hg (N := 1) ?hd (cs := #[.int .i64 a0_0, .int .i64 a0_1]) (t := 81) ?hr ?_; (case hd => rfl); (case hg => rfl); (case hr => first | (go_simp; done) | (go_simp; rfl)); intro gb440 hg w9 hbox hb; have n0_ := Aside0.mk (below_step (by repeat (first | (with_reducible first | exact HB.out | apply below_alloc | apply pw_below_drewN | apply below_drew1) | exact HB.out)) hb); have n1_ := Aside0.mk (hbox); have n2_ := Aside0.mk ((by rw [hg]; exact (below_size (by repeat (first | (with_reducible first | exact HB.out | apply below_alloc | apply pw_below_drewN | apply below_drew1) | exact HB.out))) : w.heap.size ≤ gb440)); have n3_ := Aside0.mk ((by rw [hg]; exact (below_size (by repeat (first | (with_reducible first | exact HB.out | apply below_alloc | apply pw_below_drewN | apply below_drew1) | exact HB.out))) : w.heap.size ≤ gb440)); clear HB; have HB := n0_; have BK440 := n1_; have GW440 := n2_; have GE440 := n3_; clear n0_ n1_ n2_ n3_; clear hb hbox hg; have hcz10_0 : w9.cell? ⟨gb440, 0, none⟩ = some (.int .i64 a0_0) := (blk_cell BK440.out 0).trans rfl; have hcz10_1 : w9.cell? ⟨gb440, 1, none⟩ = some (.int .i64 a0_1) := (blk_cell BK440.out 1).trans rfl; have hfz10_0 := blk_frozen BK440.out 0; have hfz10_1 := blk_frozen BK440.out 1))
      go_ret
      exact ⟨by first | rfl | (simp [errW_none, errW_some] <;> rfl) | (simp [*, errW_none, errW_some] <;> rfl), by repeat (first | (with_reducible first | exact HB.out | apply below_alloc | apply pw_below_drewN | apply below_drew1 | refine below_set ?_ GE440.out) | exact HB.out)⟩
  · rw [if_neg c2] at H
    have c2b0 : decide (1 ≤ a0_0) = false := decide_eq_false c2
    clear c2
    obtain rfl := Option.some.inj H
    go_enter Try.func61, Try.ntmps61
    go_wp2_with (first | ((with_reducible refine gate_dst (N := 1) rfl ?_); refine box_event ?hg (N := 1) ?hd (cs := #[.int .i64 a0_0, .int .i64 a0_1]) (t := 81) ?hr ?_; (case hd => rfl); (case hg => rfl); (case hr => first | (go_simp; done) | (go_simp; rfl)); intro gb440 hg w11 hbox hb; have n0_ := Aside0.mk (below_step (by repeat (first | (with_reducible first | exact HB.out | apply below_alloc | apply pw_below_drewN | apply below_drew1) | exact HB.out)) hb); have n1_ := Aside0.mk (hbox); have n2_ := Aside0.mk ((by rw [hg]; exact (below_size (by repeat (first | (with_reducible first | exact HB.out | apply below_alloc | apply pw_below_drewN | apply below_drew1) | exact HB.out))) : w.heap.size ≤ gb440)); have n3_ := Aside0.mk ((by rw [hg]; exact (below_size (by repeat (first | (with_reducible first | exact HB.out | apply below_alloc | apply pw_below_drewN | apply below_drew1) | exact HB.out))) : w.heap.size ≤ gb440)); clear HB; have HB := n0_; have BK440 := n1_; have GW440 := n2_; have GE440 := n3_; clear n0_ n1_ n2_ n3_; clear hb hbox hg; have hcz12_0 : w11.cell? ⟨gb440, 0, none⟩ = some (.int .i64 a0_0) := (blk_cell BK440.out 0).trans rfl; have hcz12_1 : w11.cell? ⟨gb440, 1, none⟩ = some (.int .i64 a0_1) := (blk_cell BK440.out 1).trans rfl; have hfz12_0 := blk_frozen BK440.out 0; have hfz12_1 := blk_frozen BK440.out 1))
    go_ret
    exact ⟨by first | rfl | (simp [errW_none, errW_some] <;> rfl) | (simp [*, errW_none, errW_some] <;> rfl), by repeat (first | (with_reducible first | exact HB.out | apply below_alloc | apply pw_below_drewN | apply below_drew1 | refine below_set ?_ GE440.out) | exact HB.out)⟩

end Go.Proofs.Ytfakedchahildaa.Q
