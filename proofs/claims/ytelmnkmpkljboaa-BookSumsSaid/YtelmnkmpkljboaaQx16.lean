-- Printed by wip/xprint.py over the translation, with contracts proved by hand among them. Lean checks it.
import Derived.Test.YtelmnkmpkljboaaQx0
import Derived.Test.YtelmnkmpkljboaaQx4
import Derived.Test.YtelmnkmpkljboaaQx9
namespace Go.Proofs.Ytelmnkmpkljboaa.Q
open Go.RowKit Go.Proofs.YtelmnkmpkljboaaW.PrintWords Go.Proofs.YtelmnkmpkljboaaW.PrintLast Go.Proofs.YtelmnkmpkljboaaW.PrintMore
attribute [local go_sem] max2_int min2_int max_two min_two max_three min_three max_four min_four   -- for this text's walks alone
set_option linter.unusedVariables false
set_option linter.unusedSimpArgs false

/-! ### book_Undo: function 32 -/
mutual
def book_Undo.j0 : Nat → List (S27) → Int → Int → Bool → Option ((List (S27)) × Int)
  | 0, _, _, _, _ => none
  | k + 1, x0, x1, x2, x21 => if x21 = true then (some (([] : List (S27)), 1)) else (book_Undo.l0 k x0 x1 x2 ([] : List (S27)) x0 (x0.length : Int) 0)
def book_Undo.l0 : Nat → List (S27) → Int → Int → List (S27) → List (S27) → Int → Int → Option ((List (S27)) × Int)
  | 0, _, _, _, _, _, _, _ => none
  | k + 1, x0, x1, x2, x8, x22, x23, x24 => if x24 < x23 then (if 0 ≤ x24 then (if x24 < (x22.length : Int) then (if ((rd_T27 x22 x24).f0) = x1 then (if x8.length < 2513169434916 then (book_Undo.l0 k x0 x1 x2 (x8 ++ [(⟨x2, (rd_T27 x22 x24).f1, (rd_T27 x22 x24).f2, (⟨(rd_T27 x22 x24).f3.f0, (rd_T27 x22 x24).f3.f1, wrap64 (-((rd_T27 x22 x24).f3.f2))⟩ : S25)⟩ : S27)]) x22 x23 (wrap64 (x24 + 1))) else (none)) else (book_Undo.l0 k x0 x1 x2 x8 x22 x23 (wrap64 (x24 + 1)))) else (none)) else (none)) else (if (x8.length : Int) = 0 then (some (([] : List (S27)), 16)) else (if 0 ≤ (wrap64 ((x0.length : Int) - 1)) then (if (wrap64 ((x0.length : Int) - 1)) < (x0.length : Int) then (if ((rd_T27 x0 (wrap64 ((x0.length : Int) - 1))).f0) ≥ x2 then (some (([] : List (S27)), 15)) else (some (x8, 0))) else (none)) else (none)))
end
def book_Undo.f (k : Nat) (l0 : List (S27)) (a1 : Int) (a2 : Int) : Option ((List (S27)) × Int) := (book_Book.f k l0).bind fun t399 => (if t399 = true then (if a2 < 1 then (book_Undo.j0 k l0 a1 a2 true) else (book_Undo.j0 k l0 a1 a2 (decide (a2 > 256)))) else (book_Undo.j0 k l0 a1 a2 true))
theorem book_Undo.mono_l : ∀ k, (∀ y0 y1 y2 y3, LeO (book_Undo.j0 k y0 y1 y2 y3) (book_Undo.j0 (k + 1) y0 y1 y2 y3)) ∧ (∀ y0 y1 y2 y3 y4 y5 y6, LeO (book_Undo.l0 k y0 y1 y2 y3 y4 y5 y6) (book_Undo.l0 (k + 1) y0 y1 y2 y3 y4 y5 y6))
  | 0 => ⟨fun _ _ _ _ r h => by simp [book_Undo.j0] at h, fun _ _ _ _ _ _ _ r h => by simp [book_Undo.l0] at h⟩
  | k + 1 => by
    obtain ⟨ih0, ih1⟩ := book_Undo.mono_l k
    refine ⟨?_, ?_⟩
    · intro y0 y1 y2 y3
      unfold book_Undo.j0
      repeat' first
      | (with_reducible exact ih0 _ _ _ _)
      | (with_reducible exact ih1 _ _ _ _ _ _ _)
      | (with_reducible exact book_Book.mono _ _)
      | (with_reducible exact LeO.refl _)
      | (with_reducible exact LeO.none _)
      | (with_reducible refine LeO.ite ?_ ?_)
      | (with_reducible refine LeO.bind ?_ (fun _ => ?_))
      | exact ih0 _ _ _ _
      | exact ih1 _ _ _ _ _ _ _
      | exact book_Book.mono _ _
      | exact LeO.none _
      | refine LeO.ite ?_ ?_
      | refine LeO.bind ?_ (fun _ => ?_)
    · intro y0 y1 y2 y3 y4 y5 y6
      unfold book_Undo.l0
      repeat' first
      | (with_reducible exact ih0 _ _ _ _)
      | (with_reducible exact ih1 _ _ _ _ _ _ _)
      | (with_reducible exact book_Book.mono _ _)
      | (with_reducible exact LeO.refl _)
      | (with_reducible exact LeO.none _)
      | (with_reducible refine LeO.ite ?_ ?_)
      | (with_reducible refine LeO.bind ?_ (fun _ => ?_))
      | exact ih0 _ _ _ _
      | exact ih1 _ _ _ _ _ _ _
      | exact book_Book.mono _ _
      | exact LeO.none _
      | refine LeO.ite ?_ ?_
      | refine LeO.bind ?_ (fun _ => ?_)
theorem book_Undo.mono : ∀ a0 a1 a2 k, LeO (book_Undo.f k a0 a1 a2) (book_Undo.f (k + 1) a0 a1 a2) := by
  intro a0 a1 a2 k
  obtain ⟨ih0, ih1⟩ := book_Undo.mono_l k
  unfold book_Undo.f
  repeat' first
      | (with_reducible exact ih0 _ _ _ _)
      | (with_reducible exact ih1 _ _ _ _ _ _ _)
      | (with_reducible exact book_Book.mono _ _)
      | (with_reducible exact LeO.refl _)
      | (with_reducible exact LeO.none _)
      | (with_reducible refine LeO.ite ?_ ?_)
      | (with_reducible refine LeO.bind ?_ (fun _ => ?_))
      | exact ih0 _ _ _ _
      | exact ih1 _ _ _ _ _ _ _
      | exact book_Book.mono _ _
      | exact LeO.none _
      | refine LeO.ite ?_ ?_
      | refine LeO.bind ?_ (fun _ => ?_)
theorem book_Undo.isSome_set (w : World) (p : Addr) (v : Value) (q : Addr) : ((w.setCell p v).cell? q).isSome = (w.cell? q).isSome := by
  by_cases h : p = q
  · subst h
    cases hc : w.cell? p with
    | some u => rw [World.cell?_setCell_same _ _ _ hc]; rfl
    | none =>
      unfold World.cell? at hc
      simp only [World.setCell, World.cell?, Array.getElem?_modify, ↓reduceIte]
      cases hh : w.heap[p.block]? with
      | none => simp
      | some x =>
        rw [hh] at hc
        cases x <;> simp_all
  · rw [World.cell?_setCell_other _ _ _ _ h]
set_option maxHeartbeats 8000000 in
set_option maxRecDepth 100000 in
theorem book_Undo.calls (k : Nat) (A0 : Option Addr) (c0 : Nat) (l0 : List (S27)) (a1 : Int) (a2 : Int) (r1 : List (S27)) (r2 : Int) (w : World) (hr0 : Kd.C k27 w A0 l0.length l0) (hc0 : l0.length ≤ c0) (h : book_Undo.f k l0 a1 a2 = some (r1, r2)) :
    Calls Try.prog 32 #[.slice A0 l0.length c0, .int .i64 a1, .int .i64 a2] w fun e w' => ∃ v0_ : Value, e = .returned (.tuple #[v0_, .int .i64 r2]) ∧ Kd.R k27 27 w' w.heap.size (fun _ => True) v0_ r1 ∧ Below w.heap.size w w' := by
  have hu27 := Try.underlying27
  have HR0 := Aside0.mk hr0
  have HC0 := Aside0.mk hc0
  clear hr0 hc0
  have HB := Aside0.mk (Below.refl w.heap.size w)
  have H : ((book_Book.f k l0).bind fun t399 => (if t399 = true then (if a2 < 1 then (book_Undo.j0 k l0 a1 a2 true) else (book_Undo.j0 k l0 a1 a2 (decide (a2 > 256)))) else (book_Undo.j0 k l0 a1 a2 true))) = some (r1, r2) := h
  clear h
  have HC4 := Aside0.mk H
  clear H
  go_enter Try.func32, Try.ntmps32
  go_upto_region 1 with (fail)
  go_cut [21] (fun v21 wc => ∃ (kq : Nat) (x21_3 : Bool), v21 = .bool x21_3 ∧ Aside0 (book_Undo.j0 kq l0 a1 a2 x21_3 = some (r1, r2)) ∧ Aside0 (kq ≤ k) ∧ Aside0 (Below w.heap.size w wc))
  case first =>
    have H := HC4.out
    clear HC4
    replace H := Option.bind_eq_some_iff.mp H
    obtain ⟨t399, A50, H⟩ := H
    replace H : (if t399 = true then (if a2 < 1 then (book_Undo.j0 k l0 a1 a2 true) else (book_Undo.j0 k l0 a1 a2 (decide (a2 > 256)))) else (book_Undo.j0 k l0 a1 a2 true)) = some (r1, r2) := H
    have A5 := Aside0.mk A50
    clear A50
    by_cases c6 : t399 = true
    · subst c6
      have H1 : (if a2 < 1 then (book_Undo.j0 k l0 a1 a2 true) else (book_Undo.j0 k l0 a1 a2 (decide (a2 > 256)))) = some (r1, r2) := by rw [if_pos rfl] at H; exact H
      clear H
      have H := H1
      clear H1
      by_cases c7 : a2 < 1
      · rw [if_pos c7] at H
        have c7b0 : decide (a2 < 1) = true := decide_eq_true c7
        clear c7
        (first | rw [c7b0] | (simp only [i64_w, i32_w]; rw [c7b0]) | skip)
        have H' := Aside0.mk H
        clear H
        go_wp2_with (first | ((with_reducible refine gate_callee (f := 14) rfl ?_); refine goesL_ (some 12) rfl rfl Try.func14 (by kernel_rfl) rfl #[.slice A0 l0.length c0] rfl (by (try simp only [List.map_toArray, List.map_cons, List.map_nil]); first | done | rfl | (simp only [List.length_drop, List.length_take]; rfl)) ?_; (with_reducible refine (book_Book.calls k _ _ l0 true _ ?side1 ?side2 A5.out).mono ?_); (case side1 => repeat (first | exact (Kd.C_below HR0.out HB.out) | (with_reducible refine Kd.C_alloc ?_ _) | (with_reducible refine Kd.C_drewN ?_ _) | (with_reducible refine Kd.C_drew ?_))); (case side2 => exact HC0.out); rintro e w8 ⟨rfl, hb⟩; refine ⟨_, rfl, ?_⟩; have n0_ := Aside0.mk (below_step (by repeat (first | (with_reducible first | exact HB.out | apply below_alloc | apply pw_below_drewN | apply below_drew1) | exact HB.out)) hb); clear HB; have HB := n0_; clear n0_; (try clear hb); (try clear hb2); (try clear hk); (try clear hi)))
        go_meet
        case rel => exact ⟨_, (true), (by first | rfl | (simp; done) | (simp [*]; done)), H', ⟨by first | omega | exact Nat.le_refl _⟩, ⟨by repeat (first | (with_reducible first | exact HB.out | apply below_alloc | apply pw_below_drewN | apply below_drew1) | exact HB.out)⟩⟩
      · rw [if_neg c7] at H
        have c7b0 : decide (a2 < 1) = false := decide_eq_false c7
        clear c7
        (first | rw [c7b0] | (simp only [i64_w, i32_w]; rw [c7b0]) | skip)
        have H' := Aside0.mk H
        clear H
        go_wp2_with (first | ((with_reducible refine gate_callee (f := 14) rfl ?_); refine goesL_ (some 12) rfl rfl Try.func14 (by kernel_rfl) rfl #[.slice A0 l0.length c0] rfl (by (try simp only [List.map_toArray, List.map_cons, List.map_nil]); first | done | rfl | (simp only [List.length_drop, List.length_take]; rfl)) ?_; (with_reducible refine (book_Book.calls k _ _ l0 true _ ?side1 ?side2 A5.out).mono ?_); (case side1 => repeat (first | exact (Kd.C_below HR0.out HB.out) | (with_reducible refine Kd.C_alloc ?_ _) | (with_reducible refine Kd.C_drewN ?_ _) | (with_reducible refine Kd.C_drew ?_))); (case side2 => exact HC0.out); rintro e w9 ⟨rfl, hb⟩; refine ⟨_, rfl, ?_⟩; have n0_ := Aside0.mk (below_step (by repeat (first | (with_reducible first | exact HB.out | apply below_alloc | apply pw_below_drewN | apply below_drew1) | exact HB.out)) hb); clear HB; have HB := n0_; clear n0_; (try clear hb); (try clear hb2); (try clear hk); (try clear hi)))
        go_meet
        case rel => exact ⟨_, (decide (a2 > 256)), (by first | rfl | (simp; done) | (simp [*]; done)), H', ⟨by first | omega | exact Nat.le_refl _⟩, ⟨by repeat (first | (with_reducible first | exact HB.out | apply below_alloc | apply pw_below_drewN | apply below_drew1) | exact HB.out)⟩⟩
    · replace c6 := Bool.eq_false_iff.mpr c6
      subst c6
      have H1 : (book_Undo.j0 k l0 a1 a2 true) = some (r1, r2) := by rw [if_neg (show ¬ (false = true) by decide)] at H; exact H
      clear H
      have H := H1
      clear H1
      have H' := Aside0.mk H
      clear H
      go_wp2_with (first | ((with_reducible refine gate_callee (f := 14) rfl ?_); refine goesL_ (some 12) rfl rfl Try.func14 (by kernel_rfl) rfl #[.slice A0 l0.length c0] rfl (by (try simp only [List.map_toArray, List.map_cons, List.map_nil]); first | done | rfl | (simp only [List.length_drop, List.length_take]; rfl)) ?_; (with_reducible refine (book_Book.calls k _ _ l0 false _ ?side1 ?side2 A5.out).mono ?_); (case side1 => repeat (first | exact (Kd.C_below HR0.out HB.out) | (with_reducible refine Kd.C_alloc ?_ _) | (with_reducible refine Kd.C_drewN ?_ _) | (with_reducible refine Kd.C_drew ?_))); (case side2 => exact HC0.out); rintro e w10 ⟨rfl, hb⟩; refine ⟨_, rfl, ?_⟩; have n0_ := Aside0.mk (below_step (by repeat (first | (with_reducible first | exact HB.out | apply below_alloc | apply pw_below_drewN | apply below_drew1) | exact HB.out)) hb); clear HB; have HB := n0_; clear n0_; (try clear hb); (try clear hb2); (try clear hk); (try clear hi)))
      go_meet
      case rel => exact ⟨_, (true), (by first | rfl | (simp; done) | (simp [*]; done)), H', ⟨by first | omega | exact Nat.le_refl _⟩, ⟨by repeat (first | (with_reducible first | exact HB.out | apply below_alloc | apply pw_below_drewN | apply below_drew1) | exact HB.out)⟩⟩
  case rest =>
    clear HC4
    try clear c1
    try clear p2
    try clear c3
    try clear c6
    try clear c7
    try clear c7b0
    obtain ⟨kq, x21_3, rfl, HA, HJ3, HB⟩ := hcut
    cases kq with
    | zero => exact absurd HA.out (by simp [book_Undo.j0])
    | succ kj3 =>
      have H := HA.out
      clear HA
      simp only [book_Undo.j0] at H
      by_cases c11 : x21_3 = true
      · subst c11
        have H1 : (some (([] : List (S27)), 1)) = some (r1, r2) := by rw [if_pos rfl] at H; exact H
        clear H
        have H := H1
        clear H1
        simp only [Option.some.injEq, Prod.mk.injEq] at H
        obtain ⟨rfl, rfl⟩ := H
        go_wp2
        go_ret2
        exact ⟨_, by first | rfl | (simp [errW_none, errW_some] <;> rfl) | (simp [*, errW_none, errW_some] <;> rfl), by first | exact Kd.R_nil _ _ _ _ _ | exact Kd.N_nil _ _ _ _ _ | exact Kd.V_nil _ _ _ _ _ | exact Kd.Q_nil _ _ _ _ _ | exact Kd.S_nil _ _ _ _ _, by repeat (first | (with_reducible first | exact HB.out | apply below_alloc | apply pw_below_drewN | apply below_drew1) | exact HB.out)⟩
      · replace c11 := Bool.eq_false_iff.mpr c11
        subst c11
        have H1 : (book_Undo.l0 kj3 l0 a1 a2 ([] : List (S27)) l0 (l0.length : Int) 0) = some (r1, r2) := by rw [if_neg (show ¬ (false = true) by decide)] at H; exact H
        clear H
        have H := H1
        clear H1
        have H' := Aside0.mk H
        clear H
        go_wp2
        go_loopg [8, 24] kj3 (fun kq v8 v24 w' => ∃ (x8_2 : List (S27)) (x24_2 : Int), v24 = .int .i64 x24_2 ∧ Aside0 (book_Undo.l0 kq l0 a1 a2 x8_2 l0 (l0.length : Int) x24_2 = some (r1, r2)) ∧ Aside0 (kq ≤ kj3) ∧ Aside0 (Kd.R k27 27 w' w.heap.size (fun _ => True) v8 x8_2) ∧ Aside0 (Below w.heap.size w w'))
        case atStart => exact ⟨(([] : List (S27))), (0), (by first | rfl | (simp; done) | (simp [*]; done)), H', ⟨Nat.le_refl _⟩, ⟨by first | exact Kd.R_nil _ _ _ _ _ | exact Kd.N_nil _ _ _ _ _ | exact Kd.V_nil _ _ _ _ _ | exact Kd.Q_nil _ _ _ _ _ | exact Kd.S_nil _ _ _ _ _⟩, ⟨by repeat (first | (with_reducible first | exact HB.out | apply below_alloc | apply pw_below_drewN | apply below_drew1) | exact HB.out)⟩⟩
        case round =>
          clear H'
          try clear c1
          try clear p2
          try clear c3
          try clear c6
          try clear c7
          try clear c7b0
          try clear c11
          try clear p2
          obtain ⟨x8_2, x24_2, rfl, HA, HK2, HO_8, HB⟩ := hrel
          cases gk with
          | zero => exact absurd HA.out (by simp [book_Undo.l0])
          | succ k2 =>
            have H := HA.out
            clear HA
            simp only [book_Undo.l0] at H
            by_cases c12 : x24_2 < (l0.length : Int)
            · rw [if_pos c12] at H
              have c12b0 : decide (x24_2 < (l0.length : Int)) = true := decide_eq_true c12
              clear c12
              by_cases c13 : 0 ≤ x24_2
              · rw [if_pos c13] at H
                have c13b0 : decide (0 ≤ x24_2) = true := decide_eq_true c13
                clear c13
                by_cases c14 : x24_2 < (l0.length : Int)
                · rw [if_pos c14] at H
                  have c14b0 : decide (x24_2 < (l0.length : Int)) = true := decide_eq_true c14
                  clear c14
                  by_cases c15 : ((rd_T27 l0 x24_2).f0) = a1
                  · rw [if_pos c15] at H
                    have c15b0 : (((rd_T27 l0 x24_2).f0) == a1) = true := beq_iff_eq.mpr c15
                    have c15b1 : (((rd_T27 l0 x24_2).f0) != a1) = false := bne_eq_false_iff_eq.mpr c15
                    clear c15
                    by_cases c16 : x8_2.length < 2513169434916
                    · rw [if_pos c16] at H
                      have LMc16 := Aside0.mk c16
                      clear c16
                      obtain ⟨y402, hy402⟩ : ∃ y_ : List (S27), y_ = (x8_2 ++ [(⟨a2, (rd_T27 l0 x24_2).f1, (rd_T27 l0 x24_2).f2, (⟨(rd_T27 l0 x24_2).f3.f0, (rd_T27 l0 x24_2).f3.f1, wrap64 (-((rd_T27 l0 x24_2).f3.f2))⟩ : S25)⟩ : S27)]) := ⟨_, rfl⟩
                      replace H : (book_Undo.l0 k2 l0 a1 a2 y402 l0 (l0.length : Int) (wrap64 (x24_2 + 1))) = some (r1, r2) := by first | (rw [hy402]; with_reducible exact H) | (have H2_ := (Option.bind_some _ _).symm.trans H; rw [hy402]; with_reducible exact H2_) | (have H2_ := (Option.bind_some _ _).symm.trans H; with_reducible exact H2_) | with_reducible exact H | (rw [hy402]; exact H) | exact H
                      have Ny402 := Aside0.mk hy402
                      clear hy402
                      have H' := Aside0.mk H
                      clear H
                      have p400 : 0 ≤ (x24_2 : Int) := of_decide_eq_true (by first | (with_reducible assumption) | assumption)
                      have q400 : x24_2 < (l0.length : Int) := of_decide_eq_true (by first | (with_reducible assumption) | assumption)
                      obtain ⟨ad400, e400, hx400_0, hx400_1, hx400_2, hx400_3, hx400_4, hx400_5⟩ := at_T27 HR0.out x24_2 p400 q400
                      cases e400
                      replace hx400_0 := (HB.out.cell (World.block_lt_of_cell? w _ hx400_0)).trans hx400_0
                      replace hx400_1 := (HB.out.cell (World.block_lt_of_cell? w _ hx400_1)).trans hx400_1
                      replace hx400_2 := (HB.out.cell (World.block_lt_of_cell? w _ hx400_2)).trans hx400_2
                      replace hx400_3 := (HB.out.cell (World.block_lt_of_cell? w _ hx400_3)).trans hx400_3
                      replace hx400_4 := (HB.out.cell (World.block_lt_of_cell? w _ hx400_4)).trans hx400_4
                      replace hx400_5 := (HB.out.cell (World.block_lt_of_cell? w _ hx400_5)).trans hx400_5
                      replace p400 := eq_true p400
                      replace q400 := eq_true q400
                      have hIs := book_Undo.isSome_set
                      go_wp2_with (first | ((with_reducible refine gate_dst (N := 10) rfl ?_); refine box_event ?hg (N := 10) ?hd (cs := #[.int .i64 0, .int .i64 0, .int .i64 0, .int .i64 0, .string (⟨#[]⟩ : ByteArray), .int .i64 0]) (t := 27) ?hr ?_; (case hd => rfl); (case hg => rfl); (case hr => first | (go_simp; done) | (go_simp; rfl)); intro gb401 hg w17 hbox hb; have n0_ := Aside0.mk (Kd.R_below (Kd.R_elderB (by (with_reducible repeat (first | apply Kd.R_alloc | apply Kd.R_drewN | apply Kd.R_drew)); exact HO_8.out) gb401 (Nat.le_of_eq hg.symm)) hb); have n1_ := Aside0.mk (below_step (by repeat (first | (with_reducible first | exact HB.out | apply below_alloc | apply pw_below_drewN | apply below_drew1) | exact HB.out)) hb); have n2_ := Aside0.mk (hbox); have n3_ := Aside0.mk ((by rw [hg]; exact (below_size (by repeat (first | (with_reducible first | exact HB.out | apply below_alloc | apply pw_below_drewN | apply below_drew1) | exact HB.out))) : w.heap.size ≤ gb401)); have n4_ := Aside0.mk ((by rw [hg]; exact (below_size (by repeat (first | (with_reducible first | exact HB.out | apply below_alloc | apply pw_below_drewN | apply below_drew1) | exact HB.out))) : w.heap.size ≤ gb401)); clear HO_8; clear HB; have HO_8 := n0_; have HB := n1_; have BK401 := n2_; have GW401 := n3_; have GE401 := n4_; clear n0_ n1_ n2_ n3_ n4_; clear hb hbox hg; have hcz18_0 : w17.cell? ⟨gb401, 0, none⟩ = some (.int .i64 0) := (blk_cell BK401.out 0).trans rfl; have hcz18_1 : w17.cell? ⟨gb401, 1, none⟩ = some (.int .i64 0) := (blk_cell BK401.out 1).trans rfl; have hcz18_2 : w17.cell? ⟨gb401, 2, none⟩ = some (.int .i64 0) := (blk_cell BK401.out 2).trans rfl; have hcz18_3 : w17.cell? ⟨gb401, 3, none⟩ = some (.int .i64 0) := (blk_cell BK401.out 3).trans rfl; have hcz18_4 : w17.cell? ⟨gb401, 4, none⟩ = some (.string (⟨#[]⟩ : ByteArray)) := (blk_cell BK401.out 4).trans rfl; have hcz18_5 : w17.cell? ⟨gb401, 5, none⟩ = some (.int .i64 0) := (blk_cell BK401.out 5).trans rfl; have hfz18_0 := blk_frozen BK401.out 0; have hfz18_1 := blk_frozen BK401.out 1; have hfz18_2 := blk_frozen BK401.out 2; have hfz18_3 := blk_frozen BK401.out 3; have hfz18_4 := blk_frozen BK401.out 4; have hfz18_5 := blk_frozen BK401.out 5) | ((with_reducible refine gate_builtin (b := .append) (xs := #[.tmp 40, .tmp 42]) rfl ?_); at_builtin; refine Kd.R_append k27 (w0 := w) w.heap.size rfl (.tmp 40) (.tmp 42) 23 27 (.agg #[(.int .i64 0), (.int .i64 0), (.int .i64 0), (.int .i64 0), (.string ⟨#[]⟩), (.int .i64 0)]) 56 rfl Try.underlying23 info27 rfl (by decide) (by omega) u8 x8_2 (⟨a2, (rd_T27 l0 x24_2).f1, (rd_T27 l0 x24_2).f2, (⟨(rd_T27 l0 x24_2).f3.f0, (rd_T27 l0 x24_2).f3.f1, wrap64 (-((rd_T27 l0 x24_2).f3.f2))⟩ : S25)⟩ : S27) [.int .i64 a2, .int .i64 ((rd_T27 l0 x24_2).f1), .int .i64 ((rd_T27 l0 x24_2).f2), .int .i64 ((rd_T27 l0 x24_2).f3.f0), .string ((rd_T27 l0 x24_2).f3.f1), .int .i64 (wrap64 (-((rd_T27 l0 x24_2).f3.f2)))] (fun k_ => k_ ≠ gb401) (fun _ => False) rfl (by first | (go_simp; done) | (go_simp; rfl)) ?aP (fun _ hk => hk.elim) ?aF ?aO ?aB ?aS ?aL ?_; (case aP => exact k27_mkM _ _ _ (⟨a2, (rd_T27 l0 x24_2).f1, (rd_T27 l0 x24_2).f2, (⟨(rd_T27 l0 x24_2).f3.f0, (rd_T27 l0 x24_2).f3.f1, wrap64 (-((rd_T27 l0 x24_2).f3.f2))⟩ : S25)⟩ : S27)); (case aB => exact (by repeat (first | (with_reducible first | exact HB.out | apply below_alloc | apply pw_below_drewN | apply below_drew1 | refine below_set ?_ GE401.out) | exact HB.out))); (case aF => exact (fun k_ hk => Kd.freshB (g := gb401) (o := .cells #[.int .i64 a2, .int .i64 ((rd_T27 l0 x24_2).f1), .int .i64 ((rd_T27 l0 x24_2).f2), .int .i64 ((rd_T27 l0 x24_2).f3.f0), .string ((rd_T27 l0 x24_2).f3.f1), .int .i64 (wrap64 (-((rd_T27 l0 x24_2).f3.f2)))] 27 (0, 0)) (by (with_reducible repeat (first | refine blk_drewN ?_ _ | refine blk_drew ?_ | refine blk_alloc ?_ _)); refine blk_put (cs := #[.int .i64 a2, .int .i64 ((rd_T27 l0 x24_2).f1), .int .i64 ((rd_T27 l0 x24_2).f2), .int .i64 ((rd_T27 l0 x24_2).f3.f0), .string ((rd_T27 l0 x24_2).f3.f1), .int .i64 ((rd_T27 l0 x24_2).f3.f2)]) ?_ 5 _ rfl; (with_reducible repeat (first | refine blk_drewN ?_ _ | refine blk_drew ?_ | refine blk_alloc ?_ _)); refine blk_put (cs := #[.int .i64 ((rd_T27 l0 x24_2).f0), .int .i64 ((rd_T27 l0 x24_2).f1), .int .i64 ((rd_T27 l0 x24_2).f2), .int .i64 ((rd_T27 l0 x24_2).f3.f0), .string ((rd_T27 l0 x24_2).f3.f1), .int .i64 ((rd_T27 l0 x24_2).f3.f2)]) ?_ 0 _ rfl; (with_reducible repeat (first | refine blk_drewN ?_ _ | refine blk_drew ?_ | refine blk_alloc ?_ _)); refine blk_put (cs := #[.int .i64 ((rd_T27 l0 x24_2).f0), .int .i64 ((rd_T27 l0 x24_2).f1), .int .i64 ((rd_T27 l0 x24_2).f2), .int .i64 ((rd_T27 l0 x24_2).f3.f0), .string ((rd_T27 l0 x24_2).f3.f1), .int .i64 0]) ?_ 5 _ rfl; (with_reducible repeat (first | refine blk_drewN ?_ _ | refine blk_drew ?_ | refine blk_alloc ?_ _)); refine blk_put (cs := #[.int .i64 ((rd_T27 l0 x24_2).f0), .int .i64 ((rd_T27 l0 x24_2).f1), .int .i64 ((rd_T27 l0 x24_2).f2), .int .i64 ((rd_T27 l0 x24_2).f3.f0), .string (⟨#[]⟩ : ByteArray), .int .i64 0]) ?_ 4 _ rfl; (with_reducible repeat (first | refine blk_drewN ?_ _ | refine blk_drew ?_ | refine blk_alloc ?_ _)); refine blk_put (cs := #[.int .i64 ((rd_T27 l0 x24_2).f0), .int .i64 ((rd_T27 l0 x24_2).f1), .int .i64 ((rd_T27 l0 x24_2).f2), .int .i64 0, .string (⟨#[]⟩ : ByteArray), .int .i64 0]) ?_ 3 _ rfl; (with_reducible repeat (first | refine blk_drewN ?_ _ | refine blk_drew ?_ | refine blk_alloc ?_ _)); refine blk_put (cs := #[.int .i64 ((rd_T27 l0 x24_2).f0), .int .i64 ((rd_T27 l0 x24_2).f1), .int .i64 0, .int .i64 0, .string (⟨#[]⟩ : ByteArray), .int .i64 0]) ?_ 2 _ rfl; (with_reducible repeat (first | refine blk_drewN ?_ _ | refine blk_drew ?_ | refine blk_alloc ?_ _)); refine blk_put (cs := #[.int .i64 ((rd_T27 l0 x24_2).f0), .int .i64 0, .int .i64 0, .int .i64 0, .string (⟨#[]⟩ : ByteArray), .int .i64 0]) ?_ 1 _ rfl; (with_reducible repeat (first | refine blk_drewN ?_ _ | refine blk_drew ?_ | refine blk_alloc ?_ _)); refine blk_put (cs := #[.int .i64 0, .int .i64 0, .int .i64 0, .int .i64 0, .string (⟨#[]⟩ : ByteArray), .int .i64 0]) ?_ 0 _ rfl; (with_reducible repeat (first | refine blk_drewN ?_ _ | refine blk_drew ?_ | refine blk_alloc ?_ _)); exact BK401.out) k_ hk)); (case aO => exact (by (with_reducible repeat (first | apply Kd.R_alloc | apply Kd.R_drewN | apply Kd.R_drew)); exact Kd.R_mono (Kd.R_far (p := ⟨gb401, 5, none⟩) (Kd.R_far (p := ⟨gb401, 0, none⟩) (Kd.R_far (p := ⟨gb401, 5, none⟩) (Kd.R_far (p := ⟨gb401, 4, none⟩) (Kd.R_far (p := ⟨gb401, 3, none⟩) (Kd.R_far (p := ⟨gb401, 2, none⟩) (Kd.R_far (p := ⟨gb401, 1, none⟩) (Kd.R_far (p := ⟨gb401, 0, none⟩) (Kd.R_mono HO_8.out (fun k_ hk => (⟨hk, hk.2⟩ : _ ∧ k_ ≠ gb401))) (fun _ hk => hk.2) (.int .i64 ((rd_T27 l0 x24_2).f0))) (fun _ hk => hk.2) (.int .i64 ((rd_T27 l0 x24_2).f1))) (fun _ hk => hk.2) (.int .i64 ((rd_T27 l0 x24_2).f2))) (fun _ hk => hk.2) (.int .i64 ((rd_T27 l0 x24_2).f3.f0))) (fun _ hk => hk.2) (.string ((rd_T27 l0 x24_2).f3.f1))) (fun _ hk => hk.2) (.int .i64 ((rd_T27 l0 x24_2).f3.f2))) (fun _ hk => hk.2) (.int .i64 a2)) (fun _ hk => hk.2) (.int .i64 (wrap64 (-((rd_T27 l0 x24_2).f3.f2))))) (fun _ hk => hk.1.2))); (case aS => exact (below_size (by repeat (first | (with_reducible first | exact HB.out | apply below_alloc | apply pw_below_drewN | apply below_drew1 | refine below_set ?_ GE401.out) | exact HB.out)))); (case aL => have := LMc16.out; omega); intro v403 w19 ho hb hg hat; rw [← Ny402.out] at ho; have n0_ := Aside0.mk (blk_grown (g := gb401) (o := .cells #[.int .i64 a2, .int .i64 ((rd_T27 l0 x24_2).f1), .int .i64 ((rd_T27 l0 x24_2).f2), .int .i64 ((rd_T27 l0 x24_2).f3.f0), .string ((rd_T27 l0 x24_2).f3.f1), .int .i64 (wrap64 (-((rd_T27 l0 x24_2).f3.f2)))] 27 (0, 0)) (by (with_reducible repeat (first | refine blk_drewN ?_ _ | refine blk_drew ?_ | refine blk_alloc ?_ _)); refine blk_put (cs := #[.int .i64 a2, .int .i64 ((rd_T27 l0 x24_2).f1), .int .i64 ((rd_T27 l0 x24_2).f2), .int .i64 ((rd_T27 l0 x24_2).f3.f0), .string ((rd_T27 l0 x24_2).f3.f1), .int .i64 ((rd_T27 l0 x24_2).f3.f2)]) ?_ 5 _ rfl; (with_reducible repeat (first | refine blk_drewN ?_ _ | refine blk_drew ?_ | refine blk_alloc ?_ _)); refine blk_put (cs := #[.int .i64 ((rd_T27 l0 x24_2).f0), .int .i64 ((rd_T27 l0 x24_2).f1), .int .i64 ((rd_T27 l0 x24_2).f2), .int .i64 ((rd_T27 l0 x24_2).f3.f0), .string ((rd_T27 l0 x24_2).f3.f1), .int .i64 ((rd_T27 l0 x24_2).f3.f2)]) ?_ 0 _ rfl; (with_reducible repeat (first | refine blk_drewN ?_ _ | refine blk_drew ?_ | refine blk_alloc ?_ _)); refine blk_put (cs := #[.int .i64 ((rd_T27 l0 x24_2).f0), .int .i64 ((rd_T27 l0 x24_2).f1), .int .i64 ((rd_T27 l0 x24_2).f2), .int .i64 ((rd_T27 l0 x24_2).f3.f0), .string ((rd_T27 l0 x24_2).f3.f1), .int .i64 0]) ?_ 5 _ rfl; (with_reducible repeat (first | refine blk_drewN ?_ _ | refine blk_drew ?_ | refine blk_alloc ?_ _)); refine blk_put (cs := #[.int .i64 ((rd_T27 l0 x24_2).f0), .int .i64 ((rd_T27 l0 x24_2).f1), .int .i64 ((rd_T27 l0 x24_2).f2), .int .i64 ((rd_T27 l0 x24_2).f3.f0), .string (⟨#[]⟩ : ByteArray), .int .i64 0]) ?_ 4 _ rfl; (with_reducible repeat (first | refine blk_drewN ?_ _ | refine blk_drew ?_ | refine blk_alloc ?_ _)); refine blk_put (cs := #[.int .i64 ((rd_T27 l0 x24_2).f0), .int .i64 ((rd_T27 l0 x24_2).f1), .int .i64 ((rd_T27 l0 x24_2).f2), .int .i64 0, .string (⟨#[]⟩ : ByteArray), .int .i64 0]) ?_ 3 _ rfl; (with_reducible repeat (first | refine blk_drewN ?_ _ | refine blk_drew ?_ | refine blk_alloc ?_ _)); refine blk_put (cs := #[.int .i64 ((rd_T27 l0 x24_2).f0), .int .i64 ((rd_T27 l0 x24_2).f1), .int .i64 0, .int .i64 0, .string (⟨#[]⟩ : ByteArray), .int .i64 0]) ?_ 2 _ rfl; (with_reducible repeat (first | refine blk_drewN ?_ _ | refine blk_drew ?_ | refine blk_alloc ?_ _)); refine blk_put (cs := #[.int .i64 ((rd_T27 l0 x24_2).f0), .int .i64 0, .int .i64 0, .int .i64 0, .string (⟨#[]⟩ : ByteArray), .int .i64 0]) ?_ 1 _ rfl; (with_reducible repeat (first | refine blk_drewN ?_ _ | refine blk_drew ?_ | refine blk_alloc ?_ _)); refine blk_put (cs := #[.int .i64 0, .int .i64 0, .int .i64 0, .int .i64 0, .string (⟨#[]⟩ : ByteArray), .int .i64 0]) ?_ 0 _ rfl; (with_reducible repeat (first | refine blk_drewN ?_ _ | refine blk_drew ?_ | refine blk_alloc ?_ _)); exact BK401.out) hg (Kd.R_away HO_8.out (fun _ hk => hk.2))); have n1_ := Aside0.mk (hb); have n2_ := Aside0.mk (ho); clear BK401; clear HB; clear HO_8; have BK401 := n0_; have HB := n1_; have HO404 := n2_; clear n0_ n1_ n2_; clear ho hb hg hat))
                      go_roundg k2
                      case measure => have := HJ3.out; have := HK2.out; omega
                      case rel => exact ⟨(y402), (wrap64 (x24_2 + 1)), (by first | rfl | (simp; done) | (simp [*]; done)), H', ⟨by have := HJ3.out; have := HK2.out; omega⟩, ⟨by (with_reducible repeat (first | apply Kd.R_alloc | apply Kd.R_drewN | apply Kd.R_drew)); exact Kd.R_mono HO404.out (fun _ hk => trivial)⟩, ⟨by repeat (first | (with_reducible first | exact HB.out | apply below_alloc | apply pw_below_drewN | apply below_drew1 | refine below_set ?_ GE401.out) | exact HB.out)⟩⟩
                    · rw [if_neg c16] at H
                      exact absurd H (by simp)
                  · rw [if_neg c15] at H
                    have c15b0 : (((rd_T27 l0 x24_2).f0) == a1) = false := beq_eq_false_iff_ne.mpr c15
                    have c15b1 : (((rd_T27 l0 x24_2).f0) != a1) = true := bne_iff_ne.mpr c15
                    have H' := Aside0.mk H
                    clear H
                    have p400 : 0 ≤ (x24_2 : Int) := of_decide_eq_true (by first | (with_reducible assumption) | assumption)
                    have q400 : x24_2 < (l0.length : Int) := of_decide_eq_true (by first | (with_reducible assumption) | assumption)
                    obtain ⟨ad400, e400, hx400_0, hx400_1, hx400_2, hx400_3, hx400_4, hx400_5⟩ := at_T27 HR0.out x24_2 p400 q400
                    cases e400
                    replace hx400_0 := (HB.out.cell (World.block_lt_of_cell? w _ hx400_0)).trans hx400_0
                    replace hx400_1 := (HB.out.cell (World.block_lt_of_cell? w _ hx400_1)).trans hx400_1
                    replace hx400_2 := (HB.out.cell (World.block_lt_of_cell? w _ hx400_2)).trans hx400_2
                    replace hx400_3 := (HB.out.cell (World.block_lt_of_cell? w _ hx400_3)).trans hx400_3
                    replace hx400_4 := (HB.out.cell (World.block_lt_of_cell? w _ hx400_4)).trans hx400_4
                    replace hx400_5 := (HB.out.cell (World.block_lt_of_cell? w _ hx400_5)).trans hx400_5
                    replace p400 := eq_true p400
                    replace q400 := eq_true q400
                    go_wp2_with (first | ((with_reducible refine gate_dst (N := 10) rfl ?_); refine box_event ?hg (N := 10) ?hd (cs := #[.int .i64 0, .int .i64 0, .int .i64 0, .int .i64 0, .string (⟨#[]⟩ : ByteArray), .int .i64 0]) (t := 27) ?hr ?_; (case hd => rfl); (case hg => rfl); (case hr => first | (go_simp; done) | (go_simp; rfl)); intro gb401 hg w20 hbox hb; have n0_ := Aside0.mk (Kd.R_below (Kd.R_elderB (by (with_reducible repeat (first | apply Kd.R_alloc | apply Kd.R_drewN | apply Kd.R_drew)); exact HO_8.out) gb401 (Nat.le_of_eq hg.symm)) hb); have n1_ := Aside0.mk (below_step (by repeat (first | (with_reducible first | exact HB.out | apply below_alloc | apply pw_below_drewN | apply below_drew1) | exact HB.out)) hb); have n2_ := Aside0.mk (hbox); have n3_ := Aside0.mk ((by rw [hg]; exact (below_size (by repeat (first | (with_reducible first | exact HB.out | apply below_alloc | apply pw_below_drewN | apply below_drew1) | exact HB.out))) : w.heap.size ≤ gb401)); have n4_ := Aside0.mk ((by rw [hg]; exact (below_size (by repeat (first | (with_reducible first | exact HB.out | apply below_alloc | apply pw_below_drewN | apply below_drew1) | exact HB.out))) : w.heap.size ≤ gb401)); clear HO_8; clear HB; have HO_8 := n0_; have HB := n1_; have BK401 := n2_; have GW401 := n3_; have GE401 := n4_; clear n0_ n1_ n2_ n3_ n4_; clear hb hbox hg; have hcz21_0 : w20.cell? ⟨gb401, 0, none⟩ = some (.int .i64 0) := (blk_cell BK401.out 0).trans rfl; have hcz21_1 : w20.cell? ⟨gb401, 1, none⟩ = some (.int .i64 0) := (blk_cell BK401.out 1).trans rfl; have hcz21_2 : w20.cell? ⟨gb401, 2, none⟩ = some (.int .i64 0) := (blk_cell BK401.out 2).trans rfl; have hcz21_3 : w20.cell? ⟨gb401, 3, none⟩ = some (.int .i64 0) := (blk_cell BK401.out 3).trans rfl; have hcz21_4 : w20.cell? ⟨gb401, 4, none⟩ = some (.string (⟨#[]⟩ : ByteArray)) := (blk_cell BK401.out 4).trans rfl; have hcz21_5 : w20.cell? ⟨gb401, 5, none⟩ = some (.int .i64 0) := (blk_cell BK401.out 5).trans rfl; have hfz21_0 := blk_frozen BK401.out 0; have hfz21_1 := blk_frozen BK401.out 1; have hfz21_2 := blk_frozen BK401.out 2; have hfz21_3 := blk_frozen BK401.out 3; have hfz21_4 := blk_frozen BK401.out 4; have hfz21_5 := blk_frozen BK401.out 5))
                    go_roundg k2
                    case measure => have := HJ3.out; have := HK2.out; omega
                    case rel => exact ⟨(x8_2), (wrap64 (x24_2 + 1)), (by first | rfl | (simp; done) | (simp [*]; done)), H', ⟨by have := HJ3.out; have := HK2.out; omega⟩, ⟨by (with_reducible repeat (first | apply Kd.R_alloc | apply Kd.R_drewN | apply Kd.R_drew)); exact Kd.R_mono (Kd.R_far (p := ⟨gb401, 5, none⟩) (Kd.R_far (p := ⟨gb401, 4, none⟩) (Kd.R_far (p := ⟨gb401, 3, none⟩) (Kd.R_far (p := ⟨gb401, 2, none⟩) (Kd.R_far (p := ⟨gb401, 1, none⟩) (Kd.R_far (p := ⟨gb401, 0, none⟩) (Kd.R_mono HO_8.out (fun k_ hk => (⟨hk, hk.2⟩ : _ ∧ k_ ≠ gb401))) (fun _ hk => hk.2) (.int .i64 ((rd_T27 l0 x24_2).f0))) (fun _ hk => hk.2) (.int .i64 ((rd_T27 l0 x24_2).f1))) (fun _ hk => hk.2) (.int .i64 ((rd_T27 l0 x24_2).f2))) (fun _ hk => hk.2) (.int .i64 ((rd_T27 l0 x24_2).f3.f0))) (fun _ hk => hk.2) (.string ((rd_T27 l0 x24_2).f3.f1))) (fun _ hk => hk.2) (.int .i64 ((rd_T27 l0 x24_2).f3.f2))) (fun _ hk => trivial)⟩, ⟨by repeat (first | (with_reducible first | exact HB.out | apply below_alloc | apply pw_below_drewN | apply below_drew1 | refine below_set ?_ GE401.out) | exact HB.out)⟩⟩
                · rw [if_neg c14] at H
                  exact absurd H (by simp)
              · rw [if_neg c13] at H
                exact absurd H (by simp)
            · rw [if_neg c12] at H
              have c12b0 : decide (x24_2 < (l0.length : Int)) = false := decide_eq_false c12
              clear c12
              by_cases c22 : (x8_2.length : Int) = 0
              · rw [if_pos c22] at H
                have c22b0 : ((x8_2.length : Int) == 0) = true := beq_iff_eq.mpr c22
                have c22b1 : ((x8_2.length : Int) != 0) = false := bne_eq_false_iff_eq.mpr c22
                clear c22
                simp only [Option.some.injEq, Prod.mk.injEq] at H
                obtain ⟨rfl, rfl⟩ := H
                obtain ⟨Ao23, co23, eo23⟩ := Kd.R_slice HO_8.out
                subst eo23
                go_wp2
                go_ret2
                exact ⟨_, by first | rfl | (simp [errW_none, errW_some] <;> rfl) | (simp [*, errW_none, errW_some] <;> rfl), by first | exact Kd.R_nil _ _ _ _ _ | exact Kd.N_nil _ _ _ _ _ | exact Kd.V_nil _ _ _ _ _ | exact Kd.Q_nil _ _ _ _ _ | exact Kd.S_nil _ _ _ _ _, by repeat (first | (with_reducible first | exact HB.out | apply below_alloc | apply pw_below_drewN | apply below_drew1) | exact HB.out)⟩
              · rw [if_neg c22] at H
                have c22b0 : ((x8_2.length : Int) == 0) = false := beq_eq_false_iff_ne.mpr c22
                have c22b1 : ((x8_2.length : Int) != 0) = true := bne_iff_ne.mpr c22
                have c22b2 : ¬ (x8_2 = []) := fun h_ => c22 (by rw [h_]; rfl)
                obtain ⟨ji24, hji24⟩ : ∃ j_ : Int, (wrap64 ((l0.length : Int) - 1)) = j_ := ⟨_, rfl⟩
                replace H : (if 0 ≤ (ji24) then (if (ji24) < (l0.length : Int) then (if ((rd_T27 l0 (ji24)).f0) ≥ a2 then (some (([] : List (S27)), 15)) else (some (x8_2, 0))) else (none)) else (none)) = some (r1, r2) := by first | (rw [hji24] at H; exact H) | (simp only [hji24] at H ⊢; exact H)
                have hji24w : (IntKind.i64.wrap ((l0.length : Int) - 1)) = ji24 := (i64_w _).trans hji24
                by_cases c25 : 0 ≤ (ji24)
                · rw [if_pos c25] at H
                  have c25b0 : decide (0 ≤ (ji24)) = true := decide_eq_true c25
                  clear c25
                  by_cases c26 : (ji24) < (l0.length : Int)
                  · rw [if_pos c26] at H
                    have c26b0 : decide ((ji24) < (l0.length : Int)) = true := decide_eq_true c26
                    clear c26
                    by_cases c27 : ((rd_T27 l0 (ji24)).f0) ≥ a2
                    · rw [if_pos c27] at H
                      have c27b0 : decide (a2 ≤ ((rd_T27 l0 (ji24)).f0)) = true := decide_eq_true c27
                      clear c27
                      simp only [Option.some.injEq, Prod.mk.injEq] at H
                      obtain ⟨rfl, rfl⟩ := H
                      obtain ⟨Ao28, co28, eo28⟩ := Kd.R_slice HO_8.out
                      subst eo28
                      have p405 : 0 ≤ ((ji24) : Int) := of_decide_eq_true (by first | (with_reducible assumption) | assumption)
                      have q405 : (ji24) < (l0.length : Int) := of_decide_eq_true (by first | (with_reducible assumption) | assumption)
                      obtain ⟨ad405, e405, hx405_0, hx405_1, hx405_2, hx405_3, hx405_4, hx405_5⟩ := at_T27 HR0.out (ji24) p405 q405
                      cases e405
                      replace hx405_0 := (HB.out.cell (World.block_lt_of_cell? w _ hx405_0)).trans hx405_0
                      replace hx405_1 := (HB.out.cell (World.block_lt_of_cell? w _ hx405_1)).trans hx405_1
                      replace hx405_2 := (HB.out.cell (World.block_lt_of_cell? w _ hx405_2)).trans hx405_2
                      replace hx405_3 := (HB.out.cell (World.block_lt_of_cell? w _ hx405_3)).trans hx405_3
                      replace hx405_4 := (HB.out.cell (World.block_lt_of_cell? w _ hx405_4)).trans hx405_4
                      replace hx405_5 := (HB.out.cell (World.block_lt_of_cell? w _ hx405_5)).trans hx405_5
                      replace p405 := eq_true p405
                      replace q405 := eq_true q405
                      go_wp2
                      go_ret2
                      exact ⟨_, by first | rfl | (simp [errW_none, errW_some] <;> rfl) | (simp only [← hji24]; first | rfl | (simp [errW_none, errW_some] <;> rfl)) | (simp [*, errW_none, errW_some] <;> rfl), by first | exact Kd.R_nil _ _ _ _ _ | exact Kd.N_nil _ _ _ _ _ | exact Kd.V_nil _ _ _ _ _ | exact Kd.Q_nil _ _ _ _ _ | exact Kd.S_nil _ _ _ _ _, by repeat (first | (with_reducible first | exact HB.out | apply below_alloc | apply pw_below_drewN | apply below_drew1) | exact HB.out)⟩
                    · rw [if_neg c27] at H
                      have c27b0 : decide (a2 ≤ ((rd_T27 l0 (ji24)).f0)) = false := decide_eq_false c27
                      clear c27
                      simp only [Option.some.injEq, Prod.mk.injEq] at H
                      obtain ⟨rfl, rfl⟩ := H
                      obtain ⟨Ao29, co29, eo29⟩ := Kd.R_slice HO_8.out
                      subst eo29
                      have p405 : 0 ≤ ((ji24) : Int) := of_decide_eq_true (by first | (with_reducible assumption) | assumption)
                      have q405 : (ji24) < (l0.length : Int) := of_decide_eq_true (by first | (with_reducible assumption) | assumption)
                      obtain ⟨ad405, e405, hx405_0, hx405_1, hx405_2, hx405_3, hx405_4, hx405_5⟩ := at_T27 HR0.out (ji24) p405 q405
                      cases e405
                      replace hx405_0 := (HB.out.cell (World.block_lt_of_cell? w _ hx405_0)).trans hx405_0
                      replace hx405_1 := (HB.out.cell (World.block_lt_of_cell? w _ hx405_1)).trans hx405_1
                      replace hx405_2 := (HB.out.cell (World.block_lt_of_cell? w _ hx405_2)).trans hx405_2
                      replace hx405_3 := (HB.out.cell (World.block_lt_of_cell? w _ hx405_3)).trans hx405_3
                      replace hx405_4 := (HB.out.cell (World.block_lt_of_cell? w _ hx405_4)).trans hx405_4
                      replace hx405_5 := (HB.out.cell (World.block_lt_of_cell? w _ hx405_5)).trans hx405_5
                      replace p405 := eq_true p405
                      replace q405 := eq_true q405
                      go_wp2
                      go_ret2
                      exact ⟨_, by first | rfl | (simp [errW_none, errW_some] <;> rfl) | (simp only [← hji24]; first | rfl | (simp [errW_none, errW_some] <;> rfl)) | (simp [*, errW_none, errW_some] <;> rfl), by (with_reducible repeat (first | apply Kd.R_alloc | apply Kd.R_drewN | apply Kd.R_drew)); exact HO_8.out, by repeat (first | (with_reducible first | exact HB.out | apply below_alloc | apply pw_below_drewN | apply below_drew1) | exact HB.out)⟩
                  · rw [if_neg c26] at H
                    exact absurd H (by simp)
                · rw [if_neg c25] at H
                  exact absurd H (by simp)

end Go.Proofs.Ytelmnkmpkljboaa.Q
