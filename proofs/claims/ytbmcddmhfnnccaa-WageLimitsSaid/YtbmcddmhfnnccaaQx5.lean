-- Printed by wip/xprint.py over the translation, with contracts proved by hand among them. Lean checks it.
import Derived.Test.YtbmcddmhfnnccaaQx0
import Derived.Test.YtbmcddmhfnnccaaQx4
namespace Go.Proofs.Ytbmcddmhfnnccaa.Q
open Go.RowKit Go.Proofs.YtbmcddmhfnnccaaW.PrintWords Go.Proofs.YtbmcddmhfnnccaaW.PrintLast Go.Proofs.YtbmcddmhfnnccaaW.PrintMore
attribute [local go_sem] max2_int min2_int max_two min_two max_three min_three max_four min_four   -- for this text's walks alone
set_option linter.unusedVariables false
set_option linter.unusedSimpArgs false

/-! ### wage_Valid: function 15 -/
mutual
def wage_Valid.l0 : Nat → List (S31) → List (S31) → Int → Int → Option (Bool)
  | 0, _, _, _, _ => none
  | k + 1, x0, x8, x9, x10 => if x10 < x9 then (if 0 ≤ x10 then (if x10 < (x8.length : Int) then ((token_IsName.f k ((rd_T31 x8 x10).f0)).bind fun t108 => (if t108 = true then (if x10 > 0 then (if 0 ≤ (wrap64 (x10 - 1)) then (if (wrap64 (x10 - 1)) < (x0.length : Int) then (wage_Valid.j1 k x0 x8 x9 x10 (!(Op.bytesLess (((rd_T31 x0 (wrap64 (x10 - 1))).f0).toList) (((rd_T31 x8 x10).f0).toList))) ((rd_T31 x8 x10).f0) ((rd_T31 x8 x10).f1) ((rd_T31 x8 x10).f2) ((rd_T31 x8 x10).f3) ((rd_T31 x8 x10).f4) ((rd_T31 x8 x10).f5)) else (none)) else (none)) else (wage_Valid.j1 k x0 x8 x9 x10 false ((rd_T31 x8 x10).f0) ((rd_T31 x8 x10).f1) ((rd_T31 x8 x10).f2) ((rd_T31 x8 x10).f3) ((rd_T31 x8 x10).f4) ((rd_T31 x8 x10).f5))) else (wage_Valid.j1 k x0 x8 x9 x10 true ((rd_T31 x8 x10).f0) ((rd_T31 x8 x10).f1) ((rd_T31 x8 x10).f2) ((rd_T31 x8 x10).f3) ((rd_T31 x8 x10).f4) ((rd_T31 x8 x10).f5)))) else (none)) else (none)) else (some true)
def wage_Valid.j1 : Nat → List (S31) → List (S31) → Int → Int → Bool → ByteArray → Int → Bool → Bool → Bool → Int → Option (Bool)
  | 0, _, _, _, _, _, _, _, _, _, _, _ => none
  | k + 1, x0, x8, x9, x10, x33, x108000, x108001, x108002, x108003, x108004, x108005 => if x33 = true then (some false) else (if x108001 = 1 then (if x108001 = 2 then (wage_Valid.j2 k x0 x8 x9 x10 x108004 x108000 x108001 x108002 x108003 x108004 x108005) else (wage_Valid.j2 k x0 x8 x9 x10 false x108000 x108001 x108002 x108003 x108004 x108005)) else (if x108001 = 2 then (wage_Valid.j2 k x0 x8 x9 x10 x108004 x108000 x108001 x108002 x108003 x108004 x108005) else (wage_Valid.j2 k x0 x8 x9 x10 true x108000 x108001 x108002 x108003 x108004 x108005)))
def wage_Valid.j2 : Nat → List (S31) → List (S31) → Int → Int → Bool → ByteArray → Int → Bool → Bool → Bool → Int → Option (Bool)
  | 0, _, _, _, _, _, _, _, _, _, _, _ => none
  | k + 1, x0, x8, x9, x10, x50, x108000, x108001, x108002, x108003, x108004, x108005 => if x50 = true then (some false) else (if x108005 < 1000 then (some false) else (if x108005 > 9999 then (some false) else (wage_Valid.l0 k x0 x8 x9 (wrap64 (x10 + 1)))))
end
def wage_Valid.f (k : Nat) (l0 : List (S31)) : Option (Bool) := if (l0.length : Int) > 64 then (some false) else (wage_Valid.l0 k l0 l0 (l0.length : Int) 0)
theorem wage_Valid.mono_l : ∀ k, (∀ y0 y1 y2 y3, LeO (wage_Valid.l0 k y0 y1 y2 y3) (wage_Valid.l0 (k + 1) y0 y1 y2 y3)) ∧ (∀ y0 y1 y2 y3 y4 y5 y6 y7 y8 y9 y10, LeO (wage_Valid.j1 k y0 y1 y2 y3 y4 y5 y6 y7 y8 y9 y10) (wage_Valid.j1 (k + 1) y0 y1 y2 y3 y4 y5 y6 y7 y8 y9 y10)) ∧ (∀ y0 y1 y2 y3 y4 y5 y6 y7 y8 y9 y10, LeO (wage_Valid.j2 k y0 y1 y2 y3 y4 y5 y6 y7 y8 y9 y10) (wage_Valid.j2 (k + 1) y0 y1 y2 y3 y4 y5 y6 y7 y8 y9 y10))
  | 0 => ⟨fun _ _ _ _ r h => by simp [wage_Valid.l0] at h, fun _ _ _ _ _ _ _ _ _ _ _ r h => by simp [wage_Valid.j1] at h, fun _ _ _ _ _ _ _ _ _ _ _ r h => by simp [wage_Valid.j2] at h⟩
  | k + 1 => by
    obtain ⟨ih0, ih1, ih2⟩ := wage_Valid.mono_l k
    refine ⟨?_, ?_, ?_⟩
    · intro y0 y1 y2 y3
      unfold wage_Valid.l0
      repeat' first
      | (with_reducible exact ih0 _ _ _ _)
      | (with_reducible exact ih1 _ _ _ _ _ _ _ _ _ _ _)
      | (with_reducible exact ih2 _ _ _ _ _ _ _ _ _ _ _)
      | (with_reducible exact token_IsName.mono _ _)
      | (with_reducible exact LeO.refl _)
      | (with_reducible exact LeO.none _)
      | (with_reducible refine LeO.ite ?_ ?_)
      | (with_reducible refine LeO.bind ?_ (fun _ => ?_))
      | exact ih0 _ _ _ _
      | exact ih1 _ _ _ _ _ _ _ _ _ _ _
      | exact ih2 _ _ _ _ _ _ _ _ _ _ _
      | exact token_IsName.mono _ _
      | exact LeO.none _
      | refine LeO.ite ?_ ?_
      | refine LeO.bind ?_ (fun _ => ?_)
    · intro y0 y1 y2 y3 y4 y5 y6 y7 y8 y9 y10
      unfold wage_Valid.j1
      repeat' first
      | (with_reducible exact ih0 _ _ _ _)
      | (with_reducible exact ih1 _ _ _ _ _ _ _ _ _ _ _)
      | (with_reducible exact ih2 _ _ _ _ _ _ _ _ _ _ _)
      | (with_reducible exact token_IsName.mono _ _)
      | (with_reducible exact LeO.refl _)
      | (with_reducible exact LeO.none _)
      | (with_reducible refine LeO.ite ?_ ?_)
      | (with_reducible refine LeO.bind ?_ (fun _ => ?_))
      | exact ih0 _ _ _ _
      | exact ih1 _ _ _ _ _ _ _ _ _ _ _
      | exact ih2 _ _ _ _ _ _ _ _ _ _ _
      | exact token_IsName.mono _ _
      | exact LeO.none _
      | refine LeO.ite ?_ ?_
      | refine LeO.bind ?_ (fun _ => ?_)
    · intro y0 y1 y2 y3 y4 y5 y6 y7 y8 y9 y10
      unfold wage_Valid.j2
      repeat' first
      | (with_reducible exact ih0 _ _ _ _)
      | (with_reducible exact ih1 _ _ _ _ _ _ _ _ _ _ _)
      | (with_reducible exact ih2 _ _ _ _ _ _ _ _ _ _ _)
      | (with_reducible exact token_IsName.mono _ _)
      | (with_reducible exact LeO.refl _)
      | (with_reducible exact LeO.none _)
      | (with_reducible refine LeO.ite ?_ ?_)
      | (with_reducible refine LeO.bind ?_ (fun _ => ?_))
      | exact ih0 _ _ _ _
      | exact ih1 _ _ _ _ _ _ _ _ _ _ _
      | exact ih2 _ _ _ _ _ _ _ _ _ _ _
      | exact token_IsName.mono _ _
      | exact LeO.none _
      | refine LeO.ite ?_ ?_
      | refine LeO.bind ?_ (fun _ => ?_)
theorem wage_Valid.mono : ∀ a0 k, LeO (wage_Valid.f k a0) (wage_Valid.f (k + 1) a0) := by
  intro a0 k
  obtain ⟨ih0, ih1, ih2⟩ := wage_Valid.mono_l k
  unfold wage_Valid.f
  repeat' first
      | (with_reducible exact ih0 _ _ _ _)
      | (with_reducible exact ih1 _ _ _ _ _ _ _ _ _ _ _)
      | (with_reducible exact ih2 _ _ _ _ _ _ _ _ _ _ _)
      | (with_reducible exact token_IsName.mono _ _)
      | (with_reducible exact LeO.refl _)
      | (with_reducible exact LeO.none _)
      | (with_reducible refine LeO.ite ?_ ?_)
      | (with_reducible refine LeO.bind ?_ (fun _ => ?_))
      | exact ih0 _ _ _ _
      | exact ih1 _ _ _ _ _ _ _ _ _ _ _
      | exact ih2 _ _ _ _ _ _ _ _ _ _ _
      | exact token_IsName.mono _ _
      | exact LeO.none _
      | refine LeO.ite ?_ ?_
      | refine LeO.bind ?_ (fun _ => ?_)
def wage_Valid.T6 : Bool × List (List Nat × List Nat) := (true, [([], []), ([0], [0]), ([1], [1]), ([2], [2]), ([3, 2], [3]), ([4], [4]), ([5, 4], [4, 5]), ([6, 4, 4], [4, 6]), ([7], [7]), ([7], [7]), ([9, 7], [7, 9]), ([8, 10, 7], [7, 8, 10]), ([11, 7], [7, 11]), ([12, 7], [7, 12]), ([7], [7]), ([14, 7], [7, 14]), ([13, 15, 7], [7, 13, 15]), ([7, 16, 4], [4, 7, 16]), ([4, 17], [4, 17])])
def wage_Valid.B6 : List Nat := [0, 1, 3, 7, 15, 31, 63, 127, 255, 255, 767, 2047, 4095, 8191, 255, 16639, 65535, 131071, 262143]
theorem wage_Valid.tab6 : rtab .any (opsOf Try.f15 6) = wage_Valid.T6 := by kernel_rfl
theorem wage_Valid.bits6 : waitsOk wage_Valid.T6.2 wage_Valid.B6 = true := by kernel_rfl
set_option maxHeartbeats 8000000 in
set_option maxRecDepth 100000 in
theorem wage_Valid.calls (k : Nat) (A0 : Option Addr) (c0 : Nat) (l0 : List (S31)) (r : Bool) (w : World) (hr0 : Kd.C k31 w A0 l0.length l0) (hc0 : l0.length ≤ c0) (h : wage_Valid.f k l0 = some r) :
    Calls Try.prog 15 #[.slice A0 l0.length c0] w fun e w' => e = .returned (.bool r) ∧ Below w.heap.size w w' := by
  have hu31 := Try.underlying31
  have HR0 := Aside0.mk hr0
  have HC0 := Aside0.mk hc0
  clear hr0 hc0
  have HB := Aside0.mk (Below.refl w.heap.size w)
  have H : (if (l0.length : Int) > 64 then (some false) else (wage_Valid.l0 k l0 l0 (l0.length : Int) 0)) = some r := h
  clear h
  by_cases c2 : (l0.length : Int) > 64
  · rw [if_pos c2] at H
    have c2b0 : decide (64 < (l0.length : Int)) = true := decide_eq_true c2
    have c2b1 : decide (64 < l0.length) = true := decide_eq_true (by omega)
    clear c2
    obtain rfl := Option.some.inj H
    go_enter Try.func15, Try.ntmps15
    go_wp2
    go_ret
    exact ⟨by first | rfl | (simp [errW_none, errW_some] <;> rfl) | (simp [*, errW_none, errW_some] <;> rfl), by repeat (first | (with_reducible first | exact HB.out | apply below_alloc | apply pw_below_drewN | apply below_drew1) | exact HB.out)⟩
  · rw [if_neg c2] at H
    have c2b0 : decide (64 < (l0.length : Int)) = false := decide_eq_false c2
    have c2b1 : decide (64 < l0.length) = false := decide_eq_false (by omega)
    clear c2
    have H' := Aside0.mk H
    clear H
    go_enter Try.func15, Try.ntmps15
    go_wp2
    go_loopg [10] k (fun kq v10 w' => ∃ (x10_1 : Int), v10 = .int .i64 x10_1 ∧ Aside0 (wage_Valid.l0 kq l0 l0 (l0.length : Int) x10_1 = some r) ∧ Aside0 (kq ≤ k) ∧ Aside0 (Below w.heap.size w w'))
    case atStart => exact ⟨(0), (by first | rfl | (simp; done) | (simp [*]; done)), H', ⟨Nat.le_refl _⟩, ⟨by repeat (first | (with_reducible first | exact HB.out | apply below_alloc | apply pw_below_drewN | apply below_drew1) | exact HB.out)⟩⟩
    case round =>
      clear H'
      try clear c1
      try clear c2
      try clear c2b0
      try clear c2b1
      try clear p2
      obtain ⟨x10_1, rfl, HA, HK1, HB⟩ := hrel
      cases gk with
      | zero => exact absurd HA.out (by simp [wage_Valid.l0])
      | succ k1 =>
        have H := HA.out
        clear HA
        simp only [wage_Valid.l0] at H
        by_cases c3 : x10_1 < (l0.length : Int)
        · rw [if_pos c3] at H
          have c3b0 : decide (x10_1 < (l0.length : Int)) = true := decide_eq_true c3
          clear c3
          by_cases c4 : 0 ≤ x10_1
          · rw [if_pos c4] at H
            have c4b0 : decide (0 ≤ x10_1) = true := decide_eq_true c4
            clear c4
            by_cases c5 : x10_1 < (l0.length : Int)
            · rw [if_pos c5] at H
              have c5b0 : decide (x10_1 < (l0.length : Int)) = true := decide_eq_true c5
              clear c5
              have HC6 := Aside0.mk H
              clear H
              have p106 : 0 ≤ (x10_1 : Int) := of_decide_eq_true (by first | (with_reducible assumption) | assumption)
              have q106 : x10_1 < (l0.length : Int) := of_decide_eq_true (by first | (with_reducible assumption) | assumption)
              obtain ⟨ad106, e106, hx106_0, hx106_1, hx106_2, hx106_3, hx106_4, hx106_5⟩ := at_T31 HR0.out x10_1 p106 q106
              cases e106
              replace hx106_0 := (HB.out.cell (World.block_lt_of_cell? w _ hx106_0)).trans hx106_0
              replace hx106_1 := (HB.out.cell (World.block_lt_of_cell? w _ hx106_1)).trans hx106_1
              replace hx106_2 := (HB.out.cell (World.block_lt_of_cell? w _ hx106_2)).trans hx106_2
              replace hx106_3 := (HB.out.cell (World.block_lt_of_cell? w _ hx106_3)).trans hx106_3
              replace hx106_4 := (HB.out.cell (World.block_lt_of_cell? w _ hx106_4)).trans hx106_4
              replace hx106_5 := (HB.out.cell (World.block_lt_of_cell? w _ hx106_5)).trans hx106_5
              replace p106 := eq_true p106
              replace q106 := eq_true q106
              go_upto_region 6 with (first | ((with_reducible refine gate_dst (N := 4) rfl ?_); refine box_event ?hg (N := 4) ?hd (cs := #[.string (⟨#[]⟩ : ByteArray), .int .i64 0, .bool false, .bool false, .bool false, .int .i64 0]) (t := 31) ?hr ?_; (case hd => rfl); (case hg => rfl); (case hr => first | (go_simp; done) | (go_simp; rfl)); intro gb107 hg w7 hbox hb; have n0_ := Aside0.mk (below_step (by repeat (first | (with_reducible first | exact HB.out | apply below_alloc | apply pw_below_drewN | apply below_drew1) | exact HB.out)) hb); have n1_ := Aside0.mk (hbox); have n2_ := Aside0.mk ((by rw [hg]; exact (below_size (by repeat (first | (with_reducible first | exact HB.out | apply below_alloc | apply pw_below_drewN | apply below_drew1) | exact HB.out))) : w.heap.size ≤ gb107)); have n3_ := Aside0.mk ((by rw [hg]; exact (below_size (by repeat (first | (with_reducible first | exact HB.out | apply below_alloc | apply pw_below_drewN | apply below_drew1) | exact HB.out))) : w.heap.size ≤ gb107)); clear HB; have HB := n0_; have BK107 := n1_; have GW107 := n2_; have GE107 := n3_; clear n0_ n1_ n2_ n3_; clear hb hbox hg; have hcz8_0 : w7.cell? ⟨gb107, 0, none⟩ = some (.string (⟨#[]⟩ : ByteArray)) := (blk_cell BK107.out 0).trans rfl; have hcz8_1 : w7.cell? ⟨gb107, 1, none⟩ = some (.int .i64 0) := (blk_cell BK107.out 1).trans rfl; have hcz8_2 : w7.cell? ⟨gb107, 2, none⟩ = some (.bool false) := (blk_cell BK107.out 2).trans rfl; have hcz8_3 : w7.cell? ⟨gb107, 3, none⟩ = some (.bool false) := (blk_cell BK107.out 3).trans rfl; have hcz8_4 : w7.cell? ⟨gb107, 4, none⟩ = some (.bool false) := (blk_cell BK107.out 4).trans rfl; have hcz8_5 : w7.cell? ⟨gb107, 5, none⟩ = some (.int .i64 0) := (blk_cell BK107.out 5).trans rfl; have hfz8_0 := blk_frozen BK107.out 0; have hfz8_1 := blk_frozen BK107.out 1; have hfz8_2 := blk_frozen BK107.out 2; have hfz8_3 := blk_frozen BK107.out 3; have hfz8_4 := blk_frozen BK107.out 4; have hfz8_5 := blk_frozen BK107.out 5))
              (try simp only [Act.put, List.setIfInBounds_toArray, List.set_cons_zero, List.set_cons_succ])
              go_cut [33] (fun v33 wc => ∃ (kq : Nat) (x33_5 : Bool), v33 = .bool x33_5 ∧ Aside0 (wage_Valid.j1 kq l0 l0 (l0.length : Int) x10_1 x33_5 ((rd_T31 l0 x10_1).f0) ((rd_T31 l0 x10_1).f1) ((rd_T31 l0 x10_1).f2) ((rd_T31 l0 x10_1).f3) ((rd_T31 l0 x10_1).f4) ((rd_T31 l0 x10_1).f5) = some r) ∧ Aside0 (kq ≤ k1) ∧ Aside0 (wc.heap[gb107]? = some (.cells #[.string ((rd_T31 l0 x10_1).f0), .int .i64 ((rd_T31 l0 x10_1).f1), .bool ((rd_T31 l0 x10_1).f2), .bool ((rd_T31 l0 x10_1).f3), .bool ((rd_T31 l0 x10_1).f4), .int .i64 ((rd_T31 l0 x10_1).f5)] 31 (0, 0))) ∧ Aside0 (Below w.heap.size w wc))
              case first =>
                have H := HC6.out
                clear HC6
                replace H := Option.bind_eq_some_iff.mp H
                obtain ⟨t108, A90, H⟩ := H
                replace H : (if t108 = true then (if x10_1 > 0 then (if 0 ≤ (wrap64 (x10_1 - 1)) then (if (wrap64 (x10_1 - 1)) < (l0.length : Int) then (wage_Valid.j1 k1 l0 l0 (l0.length : Int) x10_1 (!(Op.bytesLess (((rd_T31 l0 (wrap64 (x10_1 - 1))).f0).toList) (((rd_T31 l0 x10_1).f0).toList))) ((rd_T31 l0 x10_1).f0) ((rd_T31 l0 x10_1).f1) ((rd_T31 l0 x10_1).f2) ((rd_T31 l0 x10_1).f3) ((rd_T31 l0 x10_1).f4) ((rd_T31 l0 x10_1).f5)) else (none)) else (none)) else (wage_Valid.j1 k1 l0 l0 (l0.length : Int) x10_1 false ((rd_T31 l0 x10_1).f0) ((rd_T31 l0 x10_1).f1) ((rd_T31 l0 x10_1).f2) ((rd_T31 l0 x10_1).f3) ((rd_T31 l0 x10_1).f4) ((rd_T31 l0 x10_1).f5))) else (wage_Valid.j1 k1 l0 l0 (l0.length : Int) x10_1 true ((rd_T31 l0 x10_1).f0) ((rd_T31 l0 x10_1).f1) ((rd_T31 l0 x10_1).f2) ((rd_T31 l0 x10_1).f3) ((rd_T31 l0 x10_1).f4) ((rd_T31 l0 x10_1).f5))) = some r := H
                have A9 := Aside0.mk A90
                clear A90
                by_cases c10 : t108 = true
                · subst c10
                  have H1 : (if x10_1 > 0 then (if 0 ≤ (wrap64 (x10_1 - 1)) then (if (wrap64 (x10_1 - 1)) < (l0.length : Int) then (wage_Valid.j1 k1 l0 l0 (l0.length : Int) x10_1 (!(Op.bytesLess (((rd_T31 l0 (wrap64 (x10_1 - 1))).f0).toList) (((rd_T31 l0 x10_1).f0).toList))) ((rd_T31 l0 x10_1).f0) ((rd_T31 l0 x10_1).f1) ((rd_T31 l0 x10_1).f2) ((rd_T31 l0 x10_1).f3) ((rd_T31 l0 x10_1).f4) ((rd_T31 l0 x10_1).f5)) else (none)) else (none)) else (wage_Valid.j1 k1 l0 l0 (l0.length : Int) x10_1 false ((rd_T31 l0 x10_1).f0) ((rd_T31 l0 x10_1).f1) ((rd_T31 l0 x10_1).f2) ((rd_T31 l0 x10_1).f3) ((rd_T31 l0 x10_1).f4) ((rd_T31 l0 x10_1).f5))) = some r := by rw [if_pos rfl] at H; exact H
                  clear H
                  have H := H1
                  clear H1
                  by_cases c11 : x10_1 > 0
                  · rw [if_pos c11] at H
                    have c11b0 : decide (0 < x10_1) = true := decide_eq_true c11
                    clear c11
                    (first | rw [c11b0] | (simp only [i64_w, i32_w]; rw [c11b0]) | skip)
                    obtain ⟨ji12, hji12⟩ : ∃ j_ : Int, (wrap64 (x10_1 - 1)) = j_ := ⟨_, rfl⟩
                    replace H : (if 0 ≤ (ji12) then (if (ji12) < (l0.length : Int) then (wage_Valid.j1 k1 l0 l0 (l0.length : Int) x10_1 (!(Op.bytesLess (((rd_T31 l0 (ji12)).f0).toList) (((rd_T31 l0 x10_1).f0).toList))) ((rd_T31 l0 x10_1).f0) ((rd_T31 l0 x10_1).f1) ((rd_T31 l0 x10_1).f2) ((rd_T31 l0 x10_1).f3) ((rd_T31 l0 x10_1).f4) ((rd_T31 l0 x10_1).f5)) else (none)) else (none)) = some r := by first | (rw [hji12] at H; exact H) | (simp only [hji12] at H ⊢; exact H)
                    (try rw [hji12] at A9)
                    have hji12w : (IntKind.i64.wrap (x10_1 - 1)) = ji12 := (i64_w _).trans hji12
                    by_cases c13 : 0 ≤ (ji12)
                    · rw [if_pos c13] at H
                      have c13b0 : decide (0 ≤ (ji12)) = true := decide_eq_true c13
                      clear c13
                      by_cases c14 : (ji12) < (l0.length : Int)
                      · rw [if_pos c14] at H
                        have c14b0 : decide ((ji12) < (l0.length : Int)) = true := decide_eq_true c14
                        clear c14
                        have H' := Aside0.mk H
                        clear H
                        try go_wp2
                        have n0_ : Aside0 (((((((w7.setCell ⟨gb107, 0, none⟩ (.string ((rd_T31 l0 x10_1).f0))).setCell ⟨gb107, 1, none⟩ (.int .i64 ((rd_T31 l0 x10_1).f1))).setCell ⟨gb107, 2, none⟩ (.bool ((rd_T31 l0 x10_1).f2))).setCell ⟨gb107, 3, none⟩ (.bool ((rd_T31 l0 x10_1).f3))).setCell ⟨gb107, 4, none⟩ (.bool ((rd_T31 l0 x10_1).f4))).setCell ⟨gb107, 5, none⟩ (.int .i64 ((rd_T31 l0 x10_1).f5))).heap[gb107]? = some (.cells #[.string ((rd_T31 l0 x10_1).f0), .int .i64 ((rd_T31 l0 x10_1).f1), .bool ((rd_T31 l0 x10_1).f2), .bool ((rd_T31 l0 x10_1).f3), .bool ((rd_T31 l0 x10_1).f4), .int .i64 ((rd_T31 l0 x10_1).f5)] 31 (0, 0))) := ⟨by (with_reducible repeat (first | refine blk_drewN ?_ _ | refine blk_drew ?_ | refine blk_alloc ?_ _)); refine blk_put (cs := #[.string ((rd_T31 l0 x10_1).f0), .int .i64 ((rd_T31 l0 x10_1).f1), .bool ((rd_T31 l0 x10_1).f2), .bool ((rd_T31 l0 x10_1).f3), .bool ((rd_T31 l0 x10_1).f4), .int .i64 0]) ?_ 5 _ rfl; (with_reducible repeat (first | refine blk_drewN ?_ _ | refine blk_drew ?_ | refine blk_alloc ?_ _)); refine blk_put (cs := #[.string ((rd_T31 l0 x10_1).f0), .int .i64 ((rd_T31 l0 x10_1).f1), .bool ((rd_T31 l0 x10_1).f2), .bool ((rd_T31 l0 x10_1).f3), .bool false, .int .i64 0]) ?_ 4 _ rfl; (with_reducible repeat (first | refine blk_drewN ?_ _ | refine blk_drew ?_ | refine blk_alloc ?_ _)); refine blk_put (cs := #[.string ((rd_T31 l0 x10_1).f0), .int .i64 ((rd_T31 l0 x10_1).f1), .bool ((rd_T31 l0 x10_1).f2), .bool false, .bool false, .int .i64 0]) ?_ 3 _ rfl; (with_reducible repeat (first | refine blk_drewN ?_ _ | refine blk_drew ?_ | refine blk_alloc ?_ _)); refine blk_put (cs := #[.string ((rd_T31 l0 x10_1).f0), .int .i64 ((rd_T31 l0 x10_1).f1), .bool false, .bool false, .bool false, .int .i64 0]) ?_ 2 _ rfl; (with_reducible repeat (first | refine blk_drewN ?_ _ | refine blk_drew ?_ | refine blk_alloc ?_ _)); refine blk_put (cs := #[.string ((rd_T31 l0 x10_1).f0), .int .i64 0, .bool false, .bool false, .bool false, .int .i64 0]) ?_ 1 _ rfl; (with_reducible repeat (first | refine blk_drewN ?_ _ | refine blk_drew ?_ | refine blk_alloc ?_ _)); refine blk_put (cs := #[.string (⟨#[]⟩ : ByteArray), .int .i64 0, .bool false, .bool false, .bool false, .int .i64 0]) ?_ 0 _ rfl; (with_reducible repeat (first | refine blk_drewN ?_ _ | refine blk_drew ?_ | refine blk_alloc ?_ _)); exact BK107.out⟩
                        have n1_ : Aside0 (Below w.heap.size w ((((((w7.setCell ⟨gb107, 0, none⟩ (.string ((rd_T31 l0 x10_1).f0))).setCell ⟨gb107, 1, none⟩ (.int .i64 ((rd_T31 l0 x10_1).f1))).setCell ⟨gb107, 2, none⟩ (.bool ((rd_T31 l0 x10_1).f2))).setCell ⟨gb107, 3, none⟩ (.bool ((rd_T31 l0 x10_1).f3))).setCell ⟨gb107, 4, none⟩ (.bool ((rd_T31 l0 x10_1).f4))).setCell ⟨gb107, 5, none⟩ (.int .i64 ((rd_T31 l0 x10_1).f5)))) := ⟨by repeat (first | (with_reducible first | exact HB.out | apply below_alloc | apply pw_below_drewN | apply below_drew1 | refine below_set ?_ GE107.out) | exact HB.out)⟩
                        (try clear BK107)
                        (try clear HB)
                        generalize ((((((w7.setCell ⟨gb107, 0, none⟩ (.string ((rd_T31 l0 x10_1).f0))).setCell ⟨gb107, 1, none⟩ (.int .i64 ((rd_T31 l0 x10_1).f1))).setCell ⟨gb107, 2, none⟩ (.bool ((rd_T31 l0 x10_1).f2))).setCell ⟨gb107, 3, none⟩ (.bool ((rd_T31 l0 x10_1).f3))).setCell ⟨gb107, 4, none⟩ (.bool ((rd_T31 l0 x10_1).f4))).setCell ⟨gb107, 5, none⟩ (.int .i64 ((rd_T31 l0 x10_1).f5))) = w15 at n0_ n1_ ⊢
                        have BK107 := n0_
                        have HB := n1_
                        clear n0_ n1_
                        have n0_ := Aside0.mk (blk_drew BK107.out)
                        have n1_ := Aside0.mk (below_drew1 HB.out)
                        clear BK107
                        clear HB
                        have BK107 := n0_
                        have HB := n1_
                        clear n0_ n1_
                        have p109 : 0 ≤ ((ji12) : Int) := of_decide_eq_true (by first | (with_reducible assumption) | assumption)
                        have q109 : (ji12) < (l0.length : Int) := of_decide_eq_true (by first | (with_reducible assumption) | assumption)
                        obtain ⟨ad109, e109, hx109_0, hx109_1, hx109_2, hx109_3, hx109_4, hx109_5⟩ := at_T31 HR0.out (ji12) p109 q109
                        have hw109_5 := hx109_5
                        have hw109_4 := hx109_4
                        have hw109_3 := hx109_3
                        have hw109_2 := hx109_2
                        have hw109_1 := hx109_1
                        have hw109_0 := hx109_0
                        obtain rfl : ad106 = ad109 := (by injection e109)
                        replace hx109_0 := (HB.out.cell (World.block_lt_of_cell? w _ hx109_0)).trans hx109_0
                        replace hx109_1 := (HB.out.cell (World.block_lt_of_cell? w _ hx109_1)).trans hx109_1
                        replace hx109_2 := (HB.out.cell (World.block_lt_of_cell? w _ hx109_2)).trans hx109_2
                        replace hx109_3 := (HB.out.cell (World.block_lt_of_cell? w _ hx109_3)).trans hx109_3
                        replace hx109_4 := (HB.out.cell (World.block_lt_of_cell? w _ hx109_4)).trans hx109_4
                        replace hx109_5 := (HB.out.cell (World.block_lt_of_cell? w _ hx109_5)).trans hx109_5
                        replace p109 := eq_true p109
                        replace q109 := eq_true q109
                        refine start_ (n := 19) (S := fun w' => w'.cell? ⟨gb107, 0, none⟩ = some (.string ((rd_T31 l0 x10_1).f0)) ∧ w'.cell? ⟨gb107, 1, none⟩ = some (.int .i64 ((rd_T31 l0 x10_1).f1)) ∧ w'.cell? ⟨gb107, 2, none⟩ = some (.bool ((rd_T31 l0 x10_1).f2)) ∧ w'.cell? ⟨gb107, 3, none⟩ = some (.bool ((rd_T31 l0 x10_1).f3)) ∧ w'.cell? ⟨gb107, 4, none⟩ = some (.bool ((rd_T31 l0 x10_1).f4)) ∧ w'.cell? ⟨gb107, 5, none⟩ = some (.int .i64 ((rd_T31 l0 x10_1).f5)) ∧ w'.cell? (ad106.add (((ji12)).toNat * 6)) = some (.string ((rd_T31 l0 (ji12)).f0)) ∧ w'.cell? ⟨(ad106.add (((ji12)).toNat * 6)).block, (ad106.add (((ji12)).toNat * 6)).off + 1, none⟩ = some (.int .i64 ((rd_T31 l0 (ji12)).f1)) ∧ w'.cell? ⟨(ad106.add (((ji12)).toNat * 6)).block, (ad106.add (((ji12)).toNat * 6)).off + 2, none⟩ = some (.bool ((rd_T31 l0 (ji12)).f2)) ∧ w'.cell? ⟨(ad106.add (((ji12)).toNat * 6)).block, (ad106.add (((ji12)).toNat * 6)).off + 3, none⟩ = some (.bool ((rd_T31 l0 (ji12)).f3)) ∧ w'.cell? ⟨(ad106.add (((ji12)).toNat * 6)).block, (ad106.add (((ji12)).toNat * 6)).off + 4, none⟩ = some (.bool ((rd_T31 l0 (ji12)).f4)) ∧ w'.cell? ⟨(ad106.add (((ji12)).toNat * 6)).block, (ad106.add (((ji12)).toNat * 6)).off + 5, none⟩ = some (.int .i64 ((rd_T31 l0 (ji12)).f5))) (ds := []) #[false, false, false, false, false, false, false, false, false, false, false, false, false, false, false, false, false, false, false] (by kernel_rfl) rfl rfl ⟨(blk_cell BK107.out 0).trans rfl, (blk_cell BK107.out 1).trans rfl, (blk_cell BK107.out 2).trans rfl, (blk_cell BK107.out 3).trans rfl, (blk_cell BK107.out 4).trans rfl, (blk_cell BK107.out 5).trans rfl, ((HB.out.cell (World.block_lt_of_cell? w _ hw109_0)).trans hw109_0), ((HB.out.cell (World.block_lt_of_cell? w _ hw109_1)).trans hw109_1), ((HB.out.cell (World.block_lt_of_cell? w _ hw109_2)).trans hw109_2), ((HB.out.cell (World.block_lt_of_cell? w _ hw109_3)).trans hw109_3), ((HB.out.cell (World.block_lt_of_cell? w _ hw109_4)).trans hw109_4), ((HB.out.cell (World.block_lt_of_cell? w _ hw109_5)).trans hw109_5)⟩ (fun hHeld => ?_); refine with_tabW wage_Valid.tab6 wage_Valid.bits6 (fun HT_ HW_ => ?_)
                        generalize w15.drew = w16 at BK107 HB hx109_0 hx109_1 hx109_2 hx109_3 hx109_4 hx109_5 hHeld ⊢
                        refine pure_ (i := 0) (N := some 15) (v := ?_) (a' := ?_) #[true, false, false, false, false, false, false, false, false, false, false, false, false, false, false, false, false, false, false] rfl rfl (any_of HT_.out (by kernel_rfl)) (fun _ _ _ h => h) (Or.inl ⟨by rfl, ?_⟩) ?_ ?_
                        rotate_left
                        · intro w'
                          go_simp
                          with_reducible rfl
                        rotate_left
                        · simp only [Act.put, List.setIfInBounds_toArray, List.set_cons_zero, List.set_cons_succ, i64_w, i32_w]
                          rfl
                        refine take_ (i := 1) (N := some 16) (v := ?_) (a' := ?_) #[true, true, false, false, false, false, false, false, false, false, false, false, false, false, false, false, false, false, false] rfl rfl (take_ofW HT_.out HW_.out (by kernel_rfl)) (fun _ _ _ h => h) (Or.inl ⟨by rfl, ?_⟩) hHeld ?_ ?_
                        rotate_left
                        · rintro w' ⟨s0, s1, s2, s3, s4, s5, s6, s7, s8, s9, s10, s11⟩
                          go_simp
                          with_reducible rfl
                        rotate_left
                        · simp only [Act.put, List.setIfInBounds_toArray, List.set_cons_zero, List.set_cons_succ, i64_w, i32_w]
                          rfl
                        refine one_ (i := 2) (N := some 17) #[true, true, true, false, false, false, false, false, false, false, false, false, false, false, false, false, false, false, false] rfl rfl (one_of HT_.out (by kernel_rfl)) (by decide) (fun K hK => ?_)
                        refine goes_ Try.func33 (by kernel_rfl) rfl #[.string ((rd_T31 l0 x10_1).f0)] (by rfl) rfl rfl (by (try simp only [List.map_toArray, List.map_cons, List.map_nil]); first | done | rfl | (simp only [List.length_drop, List.length_take]; rfl)) ?_
                        with_reducible refine (token_IsName.calls k1 ((rd_T31 l0 x10_1).f0) true _ A9.out).mono ?_
                        rintro e w17 ⟨rfl, hb⟩
                        refine ⟨_, rfl, ?_⟩
                        have n0_ := Aside0.mk (blk_below (g := gb107) (o := .cells #[.string ((rd_T31 l0 x10_1).f0), .int .i64 ((rd_T31 l0 x10_1).f1), .bool ((rd_T31 l0 x10_1).f2), .bool ((rd_T31 l0 x10_1).f3), .bool ((rd_T31 l0 x10_1).f4), .int .i64 ((rd_T31 l0 x10_1).f5)] 31 (0, 0)) (by (with_reducible repeat (first | refine blk_drewN ?_ _ | refine blk_drew ?_ | refine blk_alloc ?_ _)); exact BK107.out) hb)
                        have n1_ := Aside0.mk (below_step (by repeat (first | (with_reducible first | exact HB.out | apply below_alloc | apply pw_below_drewN | apply below_drew1 | refine below_set ?_ GE107.out) | exact HB.out)) hb)
                        clear BK107
                        clear HB
                        have BK107 := n0_
                        have HB := n1_
                        clear n0_ n1_
                        (try clear hb)
                        (try clear hb2)
                        (try clear hk)
                        (try clear hi)
                        refine hK.out _ _ ⟨(blk_cell BK107.out 0).trans rfl, (blk_cell BK107.out 1).trans rfl, (blk_cell BK107.out 2).trans rfl, (blk_cell BK107.out 3).trans rfl, (blk_cell BK107.out 4).trans rfl, (blk_cell BK107.out 5).trans rfl, ((HB.out.cell (World.block_lt_of_cell? w _ hw109_0)).trans hw109_0), ((HB.out.cell (World.block_lt_of_cell? w _ hw109_1)).trans hw109_1), ((HB.out.cell (World.block_lt_of_cell? w _ hw109_2)).trans hw109_2), ((HB.out.cell (World.block_lt_of_cell? w _ hw109_3)).trans hw109_3), ((HB.out.cell (World.block_lt_of_cell? w _ hw109_4)).trans hw109_4), ((HB.out.cell (World.block_lt_of_cell? w _ hw109_5)).trans hw109_5)⟩ (fun hHeld => ?_)
                        clear hK K
                        refine norm_ (a' := ?_) ?_ ?_
                        rotate_left
                        · show Act.put _ (some 17) _ = _
                          simp only [Act.put, List.setIfInBounds_toArray, List.set_cons_zero, List.set_cons_succ, i64_w, i32_w]
                          rfl
                        refine pure_ (i := 3) (N := some 18) (v := ?_) (a' := ?_) #[true, true, true, true, false, false, false, false, false, false, false, false, false, false, false, false, false, false, false] rfl rfl (any_of HT_.out (by kernel_rfl)) (fun _ _ _ h => h) (Or.inl ⟨by rfl, ?_⟩) ?_ ?_
                        rotate_left
                        · intro w'
                          go_simp
                          with_reducible rfl
                        rotate_left
                        · simp only [Act.put, List.setIfInBounds_toArray, List.set_cons_zero, List.set_cons_succ, i64_w, i32_w]
                          rfl
                        refine pure_ (i := 4) (N := some 19) (v := ?_) (a' := ?_) #[true, true, true, true, true, false, false, false, false, false, false, false, false, false, false, false, false, false, false] rfl rfl (any_of HT_.out (by kernel_rfl)) (fun _ _ _ h => h) (Or.inl ⟨by rfl, ?_⟩) ?_ ?_
                        rotate_left
                        · intro w'
                          go_simp
                          with_reducible rfl
                        rotate_left
                        · simp only [Act.put, List.setIfInBounds_toArray, List.set_cons_zero, List.set_cons_succ, i64_w, i32_w]
                          rfl
                        refine pure_ (i := 5) (N := some 20) (v := ?_) (a' := ?_) #[true, true, true, true, true, true, false, false, false, false, false, false, false, false, false, false, false, false, false] rfl rfl (any_of HT_.out (by kernel_rfl)) (fun _ _ _ h => h) (Or.inl ⟨by rfl, ?_⟩) ?_ ?_
                        rotate_left
                        · intro w'
                          go_simp
                          with_reducible rfl
                        rotate_left
                        · simp only [Act.put, List.setIfInBounds_toArray, List.set_cons_zero, List.set_cons_succ, i64_w, i32_w]
                          rfl
                        refine pure_ (i := 6) (N := some 21) (v := ?_) (a' := ?_) #[true, true, true, true, true, true, true, false, false, false, false, false, false, false, false, false, false, false, false] rfl rfl (any_of HT_.out (by kernel_rfl)) (fun _ _ _ h => h) (Or.inl ⟨by rfl, ?_⟩) ?_ ?_
                        rotate_left
                        · intro w'
                          go_simp
                          with_reducible rfl
                        rotate_left
                        · simp only [Act.put, List.setIfInBounds_toArray, List.set_cons_zero, List.set_cons_succ, i64_w, i32_w]
                          rfl
                        refine pure_ (i := 7) (N := some 22) (v := ?_) (a' := ?_) #[true, true, true, true, true, true, true, true, false, false, false, false, false, false, false, false, false, false, false] rfl rfl (any_of HT_.out (by kernel_rfl)) (fun _ _ _ h => h) (Or.inl ⟨by rfl, ?_⟩) ?_ ?_
                        rotate_left
                        · intro w'
                          go_simp
                          with_reducible rfl
                        rotate_left
                        · simp only [Act.put, List.setIfInBounds_toArray, List.set_cons_zero, List.set_cons_succ, i64_w, i32_w]
                          rfl
                        refine pure_ (i := 8) (N := some 23) (v := ?_) (a' := ?_) #[true, true, true, true, true, true, true, true, true, false, false, false, false, false, false, false, false, false, false] rfl rfl (any_of HT_.out (by kernel_rfl)) (fun _ _ _ h => h) (Or.inl ⟨by rfl, ?_⟩) ?_ ?_
                        rotate_left
                        · intro w'
                          go_simp
                          with_reducible rfl
                        rotate_left
                        · simp only [Act.put, List.setIfInBounds_toArray, List.set_cons_zero, List.set_cons_succ, i64_w, i32_w]
                          rfl
                        refine pure_ (i := 9) (N := some 24) (v := ?_) (a' := ?_) #[true, true, true, true, true, true, true, true, true, true, false, false, false, false, false, false, false, false, false] rfl rfl (any_of HT_.out (by kernel_rfl)) (fun _ _ _ h => h) (Or.inl ⟨by rfl, ?_⟩) ?_ ?_
                        rotate_left
                        · intro w'
                          go_simp
                          with_reducible rfl
                        rotate_left
                        · simp only [Act.put, List.setIfInBounds_toArray, List.set_cons_zero, List.set_cons_succ, i64_w, i32_w]
                          rfl
                        refine pure_ (i := 10) (N := some 25) (v := ?_) (a' := ?_) #[true, true, true, true, true, true, true, true, true, true, true, false, false, false, false, false, false, false, false] rfl rfl (any_of HT_.out (by kernel_rfl)) (fun _ _ _ h => h) (Or.inl ⟨by rfl, ?_⟩) ?_ ?_
                        rotate_left
                        · intro w'
                          go_simp
                          with_reducible rfl
                        rotate_left
                        · simp only [Act.put, List.setIfInBounds_toArray, List.set_cons_zero, List.set_cons_succ, i64_w, i32_w]
                          rfl
                        refine pure_ (i := 11) (N := some 26) (v := ?_) (a' := ?_) #[true, true, true, true, true, true, true, true, true, true, true, true, false, false, false, false, false, false, false] rfl rfl (any_of HT_.out (by kernel_rfl)) (fun _ _ _ h => h) (Or.inl ⟨by rfl, ?_⟩) ?_ ?_
                        rotate_left
                        · intro w'
                          go_simp
                          with_reducible rfl
                        rotate_left
                        · simp only [Act.put, List.setIfInBounds_toArray, List.set_cons_zero, List.set_cons_succ, i64_w, i32_w]
                          rfl
                        refine pure_ (i := 12) (N := some 27) (v := ?_) (a' := ?_) #[true, true, true, true, true, true, true, true, true, true, true, true, true, false, false, false, false, false, false] rfl rfl (any_of HT_.out (by kernel_rfl)) (fun _ _ _ h => h) (Or.inl ⟨by rfl, ?_⟩) ?_ ?_
                        rotate_left
                        · intro w'
                          go_simp
                          with_reducible rfl
                        rotate_left
                        · simp only [Act.put, List.setIfInBounds_toArray, List.set_cons_zero, List.set_cons_succ, i64_w, i32_w]
                          rfl
                        refine pure_ (i := 14) (N := some 29) (v := ?_) (a' := ?_) #[true, true, true, true, true, true, true, true, true, true, true, true, true, false, true, false, false, false, false] rfl rfl (any_of HT_.out (by kernel_rfl)) (fun _ _ _ h => h) (Or.inl ⟨by rfl, ?_⟩) ?_ ?_
                        rotate_left
                        · intro w'
                          go_simp
                          with_reducible rfl
                        rotate_left
                        · simp only [Act.put, List.setIfInBounds_toArray, List.set_cons_zero, List.set_cons_succ, i64_w, i32_w]
                          rfl
                        refine take_ (i := 13) (N := some 28) (v := ?_) (a' := ?_) #[true, true, true, true, true, true, true, true, true, true, true, true, true, true, true, false, false, false, false] rfl rfl (take_ofW HT_.out HW_.out (by kernel_rfl)) (fun _ _ _ h => h) (Or.inl ⟨by rfl, ?_⟩) hHeld ?_ ?_
                        rotate_left
                        · rintro w' ⟨s0, s1, s2, s3, s4, s5, s6, s7, s8, s9, s10, s11⟩
                          go_simp
                          with_reducible rfl
                        rotate_left
                        · simp only [Act.put, List.setIfInBounds_toArray, List.set_cons_zero, List.set_cons_succ, i64_w, i32_w]
                          rfl
                        refine take_ (i := 15) (N := some 30) (v := ?_) (a' := ?_) #[true, true, true, true, true, true, true, true, true, true, true, true, true, true, true, true, false, false, false] rfl rfl (take_ofW HT_.out HW_.out (by kernel_rfl)) (fun _ _ _ h => h) (Or.inl ⟨by rfl, ?_⟩) hHeld ?_ ?_
                        rotate_left
                        · rintro w' ⟨s0, s1, s2, s3, s4, s5, s6, s7, s8, s9, s10, s11⟩
                          go_simp
                          with_reducible rfl
                        rotate_left
                        · simp only [Act.put, List.setIfInBounds_toArray, List.set_cons_zero, List.set_cons_succ, i64_w, i32_w]
                          rfl
                        refine pure_ (i := 16) (N := some 31) (v := ?_) (a' := ?_) #[true, true, true, true, true, true, true, true, true, true, true, true, true, true, true, true, true, false, false] rfl rfl (any_of HT_.out (by kernel_rfl)) (fun _ _ _ h => h) (Or.inl ⟨by rfl, ?_⟩) ?_ ?_
                        rotate_left
                        · intro w'
                          go_simp
                          with_reducible rfl
                        rotate_left
                        · simp only [Act.put, List.setIfInBounds_toArray, List.set_cons_zero, List.set_cons_succ, i64_w, i32_w]
                          rfl
                        refine pure_ (i := 17) (N := some 32) (v := ?_) (a' := ?_) #[true, true, true, true, true, true, true, true, true, true, true, true, true, true, true, true, true, true, false] rfl rfl (any_of HT_.out (by kernel_rfl)) (fun _ _ _ h => h) (Or.inl ⟨by rfl, ?_⟩) ?_ ?_
                        rotate_left
                        · intro w'
                          go_simp
                          with_reducible rfl
                        rotate_left
                        · simp only [Act.put, List.setIfInBounds_toArray, List.set_cons_zero, List.set_cons_succ, i64_w, i32_w]
                          rfl
                        refine pure_ (i := 18) (N := some 33) (v := ?_) (a' := ?_) #[true, true, true, true, true, true, true, true, true, true, true, true, true, true, true, true, true, true, true] rfl rfl (any_of HT_.out (by kernel_rfl)) (fun _ _ _ h => h) (Or.inl ⟨by rfl, ?_⟩) ?_ ?_
                        rotate_left
                        · intro w'
                          go_simp
                          with_reducible rfl
                        rotate_left
                        · simp only [Act.put, List.setIfInBounds_toArray, List.set_cons_zero, List.set_cons_succ, i64_w, i32_w]
                          rfl
                        refine done_ (done_of HT_.out (by kernel_rfl)) ?_
                        try go_wp2
                        go_meet
                        case rel => exact ⟨_, (!(Op.bytesLess (((rd_T31 l0 (ji12)).f0).toList) (((rd_T31 l0 x10_1).f0).toList))), (by first | rfl | (simp; done) | (simp only [← hji12] <;> (first | rfl | simp)) | (simp [*]; done)), H', ⟨by have := HK1.out; first | omega | exact Nat.le_refl _⟩, ⟨by (with_reducible repeat (first | refine blk_drewN ?_ _ | refine blk_drew ?_ | refine blk_alloc ?_ _)); exact BK107.out⟩, ⟨by repeat (first | (with_reducible first | exact HB.out | apply below_alloc | apply pw_below_drewN | apply below_drew1 | refine below_set ?_ GE107.out) | exact HB.out)⟩⟩
                      · rw [if_neg c14] at H
                        exact absurd H (by simp)
                    · rw [if_neg c13] at H
                      exact absurd H (by simp)
                  · rw [if_neg c11] at H
                    have c11b0 : decide (0 < x10_1) = false := decide_eq_false c11
                    clear c11
                    (first | rw [c11b0] | (simp only [i64_w, i32_w]; rw [c11b0]) | skip)
                    have H' := Aside0.mk H
                    clear H
                    try go_wp2
                    have n0_ : Aside0 (((((((w7.setCell ⟨gb107, 0, none⟩ (.string ((rd_T31 l0 x10_1).f0))).setCell ⟨gb107, 1, none⟩ (.int .i64 ((rd_T31 l0 x10_1).f1))).setCell ⟨gb107, 2, none⟩ (.bool ((rd_T31 l0 x10_1).f2))).setCell ⟨gb107, 3, none⟩ (.bool ((rd_T31 l0 x10_1).f3))).setCell ⟨gb107, 4, none⟩ (.bool ((rd_T31 l0 x10_1).f4))).setCell ⟨gb107, 5, none⟩ (.int .i64 ((rd_T31 l0 x10_1).f5))).heap[gb107]? = some (.cells #[.string ((rd_T31 l0 x10_1).f0), .int .i64 ((rd_T31 l0 x10_1).f1), .bool ((rd_T31 l0 x10_1).f2), .bool ((rd_T31 l0 x10_1).f3), .bool ((rd_T31 l0 x10_1).f4), .int .i64 ((rd_T31 l0 x10_1).f5)] 31 (0, 0))) := ⟨by (with_reducible repeat (first | refine blk_drewN ?_ _ | refine blk_drew ?_ | refine blk_alloc ?_ _)); refine blk_put (cs := #[.string ((rd_T31 l0 x10_1).f0), .int .i64 ((rd_T31 l0 x10_1).f1), .bool ((rd_T31 l0 x10_1).f2), .bool ((rd_T31 l0 x10_1).f3), .bool ((rd_T31 l0 x10_1).f4), .int .i64 0]) ?_ 5 _ rfl; (with_reducible repeat (first | refine blk_drewN ?_ _ | refine blk_drew ?_ | refine blk_alloc ?_ _)); refine blk_put (cs := #[.string ((rd_T31 l0 x10_1).f0), .int .i64 ((rd_T31 l0 x10_1).f1), .bool ((rd_T31 l0 x10_1).f2), .bool ((rd_T31 l0 x10_1).f3), .bool false, .int .i64 0]) ?_ 4 _ rfl; (with_reducible repeat (first | refine blk_drewN ?_ _ | refine blk_drew ?_ | refine blk_alloc ?_ _)); refine blk_put (cs := #[.string ((rd_T31 l0 x10_1).f0), .int .i64 ((rd_T31 l0 x10_1).f1), .bool ((rd_T31 l0 x10_1).f2), .bool false, .bool false, .int .i64 0]) ?_ 3 _ rfl; (with_reducible repeat (first | refine blk_drewN ?_ _ | refine blk_drew ?_ | refine blk_alloc ?_ _)); refine blk_put (cs := #[.string ((rd_T31 l0 x10_1).f0), .int .i64 ((rd_T31 l0 x10_1).f1), .bool false, .bool false, .bool false, .int .i64 0]) ?_ 2 _ rfl; (with_reducible repeat (first | refine blk_drewN ?_ _ | refine blk_drew ?_ | refine blk_alloc ?_ _)); refine blk_put (cs := #[.string ((rd_T31 l0 x10_1).f0), .int .i64 0, .bool false, .bool false, .bool false, .int .i64 0]) ?_ 1 _ rfl; (with_reducible repeat (first | refine blk_drewN ?_ _ | refine blk_drew ?_ | refine blk_alloc ?_ _)); refine blk_put (cs := #[.string (⟨#[]⟩ : ByteArray), .int .i64 0, .bool false, .bool false, .bool false, .int .i64 0]) ?_ 0 _ rfl; (with_reducible repeat (first | refine blk_drewN ?_ _ | refine blk_drew ?_ | refine blk_alloc ?_ _)); exact BK107.out⟩
                    have n1_ : Aside0 (Below w.heap.size w ((((((w7.setCell ⟨gb107, 0, none⟩ (.string ((rd_T31 l0 x10_1).f0))).setCell ⟨gb107, 1, none⟩ (.int .i64 ((rd_T31 l0 x10_1).f1))).setCell ⟨gb107, 2, none⟩ (.bool ((rd_T31 l0 x10_1).f2))).setCell ⟨gb107, 3, none⟩ (.bool ((rd_T31 l0 x10_1).f3))).setCell ⟨gb107, 4, none⟩ (.bool ((rd_T31 l0 x10_1).f4))).setCell ⟨gb107, 5, none⟩ (.int .i64 ((rd_T31 l0 x10_1).f5)))) := ⟨by repeat (first | (with_reducible first | exact HB.out | apply below_alloc | apply pw_below_drewN | apply below_drew1 | refine below_set ?_ GE107.out) | exact HB.out)⟩
                    (try clear BK107)
                    (try clear HB)
                    generalize ((((((w7.setCell ⟨gb107, 0, none⟩ (.string ((rd_T31 l0 x10_1).f0))).setCell ⟨gb107, 1, none⟩ (.int .i64 ((rd_T31 l0 x10_1).f1))).setCell ⟨gb107, 2, none⟩ (.bool ((rd_T31 l0 x10_1).f2))).setCell ⟨gb107, 3, none⟩ (.bool ((rd_T31 l0 x10_1).f3))).setCell ⟨gb107, 4, none⟩ (.bool ((rd_T31 l0 x10_1).f4))).setCell ⟨gb107, 5, none⟩ (.int .i64 ((rd_T31 l0 x10_1).f5))) = w18 at n0_ n1_ ⊢
                    have BK107 := n0_
                    have HB := n1_
                    clear n0_ n1_
                    have n0_ := Aside0.mk (blk_drew BK107.out)
                    have n1_ := Aside0.mk (below_drew1 HB.out)
                    clear BK107
                    clear HB
                    have BK107 := n0_
                    have HB := n1_
                    clear n0_ n1_
                    refine start_ (n := 19) (S := fun w' => w'.cell? ⟨gb107, 0, none⟩ = some (.string ((rd_T31 l0 x10_1).f0)) ∧ w'.cell? ⟨gb107, 1, none⟩ = some (.int .i64 ((rd_T31 l0 x10_1).f1)) ∧ w'.cell? ⟨gb107, 2, none⟩ = some (.bool ((rd_T31 l0 x10_1).f2)) ∧ w'.cell? ⟨gb107, 3, none⟩ = some (.bool ((rd_T31 l0 x10_1).f3)) ∧ w'.cell? ⟨gb107, 4, none⟩ = some (.bool ((rd_T31 l0 x10_1).f4)) ∧ w'.cell? ⟨gb107, 5, none⟩ = some (.int .i64 ((rd_T31 l0 x10_1).f5))) (ds := []) #[false, false, false, false, false, false, false, false, false, false, false, false, false, false, false, false, false, false, false] (by kernel_rfl) rfl rfl ⟨(blk_cell BK107.out 0).trans rfl, (blk_cell BK107.out 1).trans rfl, (blk_cell BK107.out 2).trans rfl, (blk_cell BK107.out 3).trans rfl, (blk_cell BK107.out 4).trans rfl, (blk_cell BK107.out 5).trans rfl⟩ (fun hHeld => ?_); refine with_tabW wage_Valid.tab6 wage_Valid.bits6 (fun HT_ HW_ => ?_)
                    generalize w18.drew = w19 at BK107 HB hHeld ⊢
                    refine pure_ (i := 0) (N := some 15) (v := ?_) (a' := ?_) #[true, false, false, false, false, false, false, false, false, false, false, false, false, false, false, false, false, false, false] rfl rfl (any_of HT_.out (by kernel_rfl)) (fun _ _ _ h => h) (Or.inl ⟨by rfl, ?_⟩) ?_ ?_
                    rotate_left
                    · intro w'
                      go_simp
                      with_reducible rfl
                    rotate_left
                    · simp only [Act.put, List.setIfInBounds_toArray, List.set_cons_zero, List.set_cons_succ, i64_w, i32_w]
                      rfl
                    refine take_ (i := 1) (N := some 16) (v := ?_) (a' := ?_) #[true, true, false, false, false, false, false, false, false, false, false, false, false, false, false, false, false, false, false] rfl rfl (take_ofW HT_.out HW_.out (by kernel_rfl)) (fun _ _ _ h => h) (Or.inl ⟨by rfl, ?_⟩) hHeld ?_ ?_
                    rotate_left
                    · rintro w' ⟨s0, s1, s2, s3, s4, s5⟩
                      go_simp
                      with_reducible rfl
                    rotate_left
                    · simp only [Act.put, List.setIfInBounds_toArray, List.set_cons_zero, List.set_cons_succ, i64_w, i32_w]
                      rfl
                    refine one_ (i := 2) (N := some 17) #[true, true, true, false, false, false, false, false, false, false, false, false, false, false, false, false, false, false, false] rfl rfl (one_of HT_.out (by kernel_rfl)) (by decide) (fun K hK => ?_)
                    refine goes_ Try.func33 (by kernel_rfl) rfl #[.string ((rd_T31 l0 x10_1).f0)] (by rfl) rfl rfl (by (try simp only [List.map_toArray, List.map_cons, List.map_nil]); first | done | rfl | (simp only [List.length_drop, List.length_take]; rfl)) ?_
                    with_reducible refine (token_IsName.calls k1 ((rd_T31 l0 x10_1).f0) true _ A9.out).mono ?_
                    rintro e w20 ⟨rfl, hb⟩
                    refine ⟨_, rfl, ?_⟩
                    have n0_ := Aside0.mk (blk_below (g := gb107) (o := .cells #[.string ((rd_T31 l0 x10_1).f0), .int .i64 ((rd_T31 l0 x10_1).f1), .bool ((rd_T31 l0 x10_1).f2), .bool ((rd_T31 l0 x10_1).f3), .bool ((rd_T31 l0 x10_1).f4), .int .i64 ((rd_T31 l0 x10_1).f5)] 31 (0, 0)) (by (with_reducible repeat (first | refine blk_drewN ?_ _ | refine blk_drew ?_ | refine blk_alloc ?_ _)); exact BK107.out) hb)
                    have n1_ := Aside0.mk (below_step (by repeat (first | (with_reducible first | exact HB.out | apply below_alloc | apply pw_below_drewN | apply below_drew1 | refine below_set ?_ GE107.out) | exact HB.out)) hb)
                    clear BK107
                    clear HB
                    have BK107 := n0_
                    have HB := n1_
                    clear n0_ n1_
                    (try clear hb)
                    (try clear hb2)
                    (try clear hk)
                    (try clear hi)
                    refine hK.out _ _ ⟨(blk_cell BK107.out 0).trans rfl, (blk_cell BK107.out 1).trans rfl, (blk_cell BK107.out 2).trans rfl, (blk_cell BK107.out 3).trans rfl, (blk_cell BK107.out 4).trans rfl, (blk_cell BK107.out 5).trans rfl⟩ (fun hHeld => ?_)
                    clear hK K
                    refine norm_ (a' := ?_) ?_ ?_
                    rotate_left
                    · show Act.put _ (some 17) _ = _
                      simp only [Act.put, List.setIfInBounds_toArray, List.set_cons_zero, List.set_cons_succ, i64_w, i32_w]
                      rfl
                    refine pure_ (i := 3) (N := some 18) (v := ?_) (a' := ?_) #[true, true, true, true, false, false, false, false, false, false, false, false, false, false, false, false, false, false, false] rfl rfl (any_of HT_.out (by kernel_rfl)) (fun _ _ _ h => h) (Or.inl ⟨by rfl, ?_⟩) ?_ ?_
                    rotate_left
                    · intro w'
                      go_simp
                      with_reducible rfl
                    rotate_left
                    · simp only [Act.put, List.setIfInBounds_toArray, List.set_cons_zero, List.set_cons_succ, i64_w, i32_w]
                      rfl
                    refine pure_ (i := 4) (N := some 19) (v := ?_) (a' := ?_) #[true, true, true, true, true, false, false, false, false, false, false, false, false, false, false, false, false, false, false] rfl rfl (any_of HT_.out (by kernel_rfl)) (fun _ _ _ h => h) (Or.inl ⟨by rfl, ?_⟩) ?_ ?_
                    rotate_left
                    · intro w'
                      go_simp
                      with_reducible rfl
                    rotate_left
                    · simp only [Act.put, List.setIfInBounds_toArray, List.set_cons_zero, List.set_cons_succ, i64_w, i32_w]
                      rfl
                    refine pure_ (i := 5) (N := some 20) (v := ?_) (a' := ?_) #[true, true, true, true, true, true, false, false, false, false, false, false, false, false, false, false, false, false, false] rfl rfl (any_of HT_.out (by kernel_rfl)) (fun _ _ _ h => h) (Or.inl ⟨by rfl, ?_⟩) ?_ ?_
                    rotate_left
                    · intro w'
                      go_simp
                      with_reducible rfl
                    rotate_left
                    · simp only [Act.put, List.setIfInBounds_toArray, List.set_cons_zero, List.set_cons_succ, i64_w, i32_w]
                      rfl
                    refine pure_ (i := 6) (N := some 21) (v := ?_) (a' := ?_) #[true, true, true, true, true, true, true, false, false, false, false, false, false, false, false, false, false, false, false] rfl rfl (any_of HT_.out (by kernel_rfl)) (fun _ _ _ h => h) (Or.inl ⟨by rfl, ?_⟩) ?_ ?_
                    rotate_left
                    · intro w'
                      go_simp
                      with_reducible rfl
                    rotate_left
                    · simp only [Act.put, List.setIfInBounds_toArray, List.set_cons_zero, List.set_cons_succ, i64_w, i32_w]
                      rfl
                    refine pure_ (i := 7) (N := some 22) (v := ?_) (a' := ?_) #[true, true, true, true, true, true, true, true, false, false, false, false, false, false, false, false, false, false, false] rfl rfl (any_of HT_.out (by kernel_rfl)) (fun _ _ _ h => h) (Or.inl ⟨by rfl, ?_⟩) ?_ ?_
                    rotate_left
                    · intro w'
                      go_simp
                      with_reducible rfl
                    rotate_left
                    · simp only [Act.put, List.setIfInBounds_toArray, List.set_cons_zero, List.set_cons_succ, i64_w, i32_w]
                      rfl
                    refine pure_ (i := 8) (N := some 23) (v := undef) (a' := ?_) #[true, true, true, true, true, true, true, true, true, false, false, false, false, false, false, false, false, false, false] rfl rfl (any_of HT_.out (by kernel_rfl)) (fun _ _ _ h => h) (Or.inr ⟨by rfl, rfl⟩) ?_ ?_
                    rotate_left
                    · simp only [Act.put, List.setIfInBounds_toArray, List.set_cons_zero, List.set_cons_succ, i64_w, i32_w]
                      rfl
                    refine pure_ (i := 9) (N := some 24) (v := undef) (a' := ?_) #[true, true, true, true, true, true, true, true, true, true, false, false, false, false, false, false, false, false, false] rfl rfl (any_of HT_.out (by kernel_rfl)) (fun _ _ _ h => h) (Or.inr ⟨by rfl, rfl⟩) ?_ ?_
                    rotate_left
                    · simp only [Act.put, List.setIfInBounds_toArray, List.set_cons_zero, List.set_cons_succ, i64_w, i32_w]
                      rfl
                    refine pure_ (i := 10) (N := some 25) (v := undef) (a' := ?_) #[true, true, true, true, true, true, true, true, true, true, true, false, false, false, false, false, false, false, false] rfl rfl (any_of HT_.out (by kernel_rfl)) (fun _ _ _ h => h) (Or.inr ⟨by rfl, rfl⟩) ?_ ?_
                    rotate_left
                    · simp only [Act.put, List.setIfInBounds_toArray, List.set_cons_zero, List.set_cons_succ, i64_w, i32_w]
                      rfl
                    refine pure_ (i := 11) (N := some 26) (v := undef) (a' := ?_) #[true, true, true, true, true, true, true, true, true, true, true, true, false, false, false, false, false, false, false] rfl rfl (any_of HT_.out (by kernel_rfl)) (fun _ _ _ h => h) (Or.inr ⟨by rfl, rfl⟩) ?_ ?_
                    rotate_left
                    · simp only [Act.put, List.setIfInBounds_toArray, List.set_cons_zero, List.set_cons_succ, i64_w, i32_w]
                      rfl
                    refine pure_ (i := 12) (N := some 27) (v := undef) (a' := ?_) #[true, true, true, true, true, true, true, true, true, true, true, true, true, false, false, false, false, false, false] rfl rfl (any_of HT_.out (by kernel_rfl)) (fun _ _ _ h => h) (Or.inr ⟨by rfl, rfl⟩) ?_ ?_
                    rotate_left
                    · simp only [Act.put, List.setIfInBounds_toArray, List.set_cons_zero, List.set_cons_succ, i64_w, i32_w]
                      rfl
                    refine pure_ (i := 13) (N := some 28) (v := undef) (a' := ?_) #[true, true, true, true, true, true, true, true, true, true, true, true, true, true, false, false, false, false, false] rfl rfl (any_of HT_.out (by kernel_rfl)) (fun _ _ _ h => h) (Or.inr ⟨by rfl, rfl⟩) ?_ ?_
                    rotate_left
                    · simp only [Act.put, List.setIfInBounds_toArray, List.set_cons_zero, List.set_cons_succ, i64_w, i32_w]
                      rfl
                    refine pure_ (i := 14) (N := some 29) (v := undef) (a' := ?_) #[true, true, true, true, true, true, true, true, true, true, true, true, true, true, true, false, false, false, false] rfl rfl (any_of HT_.out (by kernel_rfl)) (fun _ _ _ h => h) (Or.inr ⟨by rfl, rfl⟩) ?_ ?_
                    rotate_left
                    · simp only [Act.put, List.setIfInBounds_toArray, List.set_cons_zero, List.set_cons_succ, i64_w, i32_w]
                      rfl
                    refine pure_ (i := 15) (N := some 30) (v := undef) (a' := ?_) #[true, true, true, true, true, true, true, true, true, true, true, true, true, true, true, true, false, false, false] rfl rfl (any_of HT_.out (by kernel_rfl)) (fun _ _ _ h => h) (Or.inr ⟨by rfl, rfl⟩) ?_ ?_
                    rotate_left
                    · simp only [Act.put, List.setIfInBounds_toArray, List.set_cons_zero, List.set_cons_succ, i64_w, i32_w]
                      rfl
                    refine pure_ (i := 16) (N := some 31) (v := undef) (a' := ?_) #[true, true, true, true, true, true, true, true, true, true, true, true, true, true, true, true, true, false, false] rfl rfl (any_of HT_.out (by kernel_rfl)) (fun _ _ _ h => h) (Or.inr ⟨by rfl, rfl⟩) ?_ ?_
                    rotate_left
                    · simp only [Act.put, List.setIfInBounds_toArray, List.set_cons_zero, List.set_cons_succ, i64_w, i32_w]
                      rfl
                    refine pure_ (i := 17) (N := some 32) (v := ?_) (a' := ?_) #[true, true, true, true, true, true, true, true, true, true, true, true, true, true, true, true, true, true, false] rfl rfl (any_of HT_.out (by kernel_rfl)) (fun _ _ _ h => h) (Or.inl ⟨by rfl, ?_⟩) ?_ ?_
                    rotate_left
                    · intro w'
                      go_simp
                      with_reducible rfl
                    rotate_left
                    · simp only [Act.put, List.setIfInBounds_toArray, List.set_cons_zero, List.set_cons_succ, i64_w, i32_w]
                      rfl
                    refine pure_ (i := 18) (N := some 33) (v := ?_) (a' := ?_) #[true, true, true, true, true, true, true, true, true, true, true, true, true, true, true, true, true, true, true] rfl rfl (any_of HT_.out (by kernel_rfl)) (fun _ _ _ h => h) (Or.inl ⟨by rfl, ?_⟩) ?_ ?_
                    rotate_left
                    · intro w'
                      go_simp
                      with_reducible rfl
                    rotate_left
                    · simp only [Act.put, List.setIfInBounds_toArray, List.set_cons_zero, List.set_cons_succ, i64_w, i32_w]
                      rfl
                    refine done_ (done_of HT_.out (by kernel_rfl)) ?_
                    try go_wp2
                    go_meet
                    case rel => exact ⟨_, (false), (by first | rfl | (simp; done) | (simp [*]; done)), H', ⟨by have := HK1.out; first | omega | exact Nat.le_refl _⟩, ⟨by (with_reducible repeat (first | refine blk_drewN ?_ _ | refine blk_drew ?_ | refine blk_alloc ?_ _)); exact BK107.out⟩, ⟨by repeat (first | (with_reducible first | exact HB.out | apply below_alloc | apply pw_below_drewN | apply below_drew1 | refine below_set ?_ GE107.out) | exact HB.out)⟩⟩
                · replace c10 := Bool.eq_false_iff.mpr c10
                  subst c10
                  have H1 : (wage_Valid.j1 k1 l0 l0 (l0.length : Int) x10_1 true ((rd_T31 l0 x10_1).f0) ((rd_T31 l0 x10_1).f1) ((rd_T31 l0 x10_1).f2) ((rd_T31 l0 x10_1).f3) ((rd_T31 l0 x10_1).f4) ((rd_T31 l0 x10_1).f5)) = some r := by rw [if_neg (show ¬ (false = true) by decide)] at H; exact H
                  clear H
                  have H := H1
                  clear H1
                  have H' := Aside0.mk H
                  clear H
                  try go_wp2
                  have n0_ : Aside0 (((((((w7.setCell ⟨gb107, 0, none⟩ (.string ((rd_T31 l0 x10_1).f0))).setCell ⟨gb107, 1, none⟩ (.int .i64 ((rd_T31 l0 x10_1).f1))).setCell ⟨gb107, 2, none⟩ (.bool ((rd_T31 l0 x10_1).f2))).setCell ⟨gb107, 3, none⟩ (.bool ((rd_T31 l0 x10_1).f3))).setCell ⟨gb107, 4, none⟩ (.bool ((rd_T31 l0 x10_1).f4))).setCell ⟨gb107, 5, none⟩ (.int .i64 ((rd_T31 l0 x10_1).f5))).heap[gb107]? = some (.cells #[.string ((rd_T31 l0 x10_1).f0), .int .i64 ((rd_T31 l0 x10_1).f1), .bool ((rd_T31 l0 x10_1).f2), .bool ((rd_T31 l0 x10_1).f3), .bool ((rd_T31 l0 x10_1).f4), .int .i64 ((rd_T31 l0 x10_1).f5)] 31 (0, 0))) := ⟨by (with_reducible repeat (first | refine blk_drewN ?_ _ | refine blk_drew ?_ | refine blk_alloc ?_ _)); refine blk_put (cs := #[.string ((rd_T31 l0 x10_1).f0), .int .i64 ((rd_T31 l0 x10_1).f1), .bool ((rd_T31 l0 x10_1).f2), .bool ((rd_T31 l0 x10_1).f3), .bool ((rd_T31 l0 x10_1).f4), .int .i64 0]) ?_ 5 _ rfl; (with_reducible repeat (first | refine blk_drewN ?_ _ | refine blk_drew ?_ | refine blk_alloc ?_ _)); refine blk_put (cs := #[.string ((rd_T31 l0 x10_1).f0), .int .i64 ((rd_T31 l0 x10_1).f1), .bool ((rd_T31 l0 x10_1).f2), .bool ((rd_T31 l0 x10_1).f3), .bool false, .int .i64 0]) ?_ 4 _ rfl; (with_reducible repeat (first | refine blk_drewN ?_ _ | refine blk_drew ?_ | refine blk_alloc ?_ _)); refine blk_put (cs := #[.string ((rd_T31 l0 x10_1).f0), .int .i64 ((rd_T31 l0 x10_1).f1), .bool ((rd_T31 l0 x10_1).f2), .bool false, .bool false, .int .i64 0]) ?_ 3 _ rfl; (with_reducible repeat (first | refine blk_drewN ?_ _ | refine blk_drew ?_ | refine blk_alloc ?_ _)); refine blk_put (cs := #[.string ((rd_T31 l0 x10_1).f0), .int .i64 ((rd_T31 l0 x10_1).f1), .bool false, .bool false, .bool false, .int .i64 0]) ?_ 2 _ rfl; (with_reducible repeat (first | refine blk_drewN ?_ _ | refine blk_drew ?_ | refine blk_alloc ?_ _)); refine blk_put (cs := #[.string ((rd_T31 l0 x10_1).f0), .int .i64 0, .bool false, .bool false, .bool false, .int .i64 0]) ?_ 1 _ rfl; (with_reducible repeat (first | refine blk_drewN ?_ _ | refine blk_drew ?_ | refine blk_alloc ?_ _)); refine blk_put (cs := #[.string (⟨#[]⟩ : ByteArray), .int .i64 0, .bool false, .bool false, .bool false, .int .i64 0]) ?_ 0 _ rfl; (with_reducible repeat (first | refine blk_drewN ?_ _ | refine blk_drew ?_ | refine blk_alloc ?_ _)); exact BK107.out⟩
                  have n1_ : Aside0 (Below w.heap.size w ((((((w7.setCell ⟨gb107, 0, none⟩ (.string ((rd_T31 l0 x10_1).f0))).setCell ⟨gb107, 1, none⟩ (.int .i64 ((rd_T31 l0 x10_1).f1))).setCell ⟨gb107, 2, none⟩ (.bool ((rd_T31 l0 x10_1).f2))).setCell ⟨gb107, 3, none⟩ (.bool ((rd_T31 l0 x10_1).f3))).setCell ⟨gb107, 4, none⟩ (.bool ((rd_T31 l0 x10_1).f4))).setCell ⟨gb107, 5, none⟩ (.int .i64 ((rd_T31 l0 x10_1).f5)))) := ⟨by repeat (first | (with_reducible first | exact HB.out | apply below_alloc | apply pw_below_drewN | apply below_drew1 | refine below_set ?_ GE107.out) | exact HB.out)⟩
                  (try clear BK107)
                  (try clear HB)
                  generalize ((((((w7.setCell ⟨gb107, 0, none⟩ (.string ((rd_T31 l0 x10_1).f0))).setCell ⟨gb107, 1, none⟩ (.int .i64 ((rd_T31 l0 x10_1).f1))).setCell ⟨gb107, 2, none⟩ (.bool ((rd_T31 l0 x10_1).f2))).setCell ⟨gb107, 3, none⟩ (.bool ((rd_T31 l0 x10_1).f3))).setCell ⟨gb107, 4, none⟩ (.bool ((rd_T31 l0 x10_1).f4))).setCell ⟨gb107, 5, none⟩ (.int .i64 ((rd_T31 l0 x10_1).f5))) = w21 at n0_ n1_ ⊢
                  have BK107 := n0_
                  have HB := n1_
                  clear n0_ n1_
                  have n0_ := Aside0.mk (blk_drew BK107.out)
                  have n1_ := Aside0.mk (below_drew1 HB.out)
                  clear BK107
                  clear HB
                  have BK107 := n0_
                  have HB := n1_
                  clear n0_ n1_
                  refine start_ (n := 19) (S := fun w' => w'.cell? ⟨gb107, 0, none⟩ = some (.string ((rd_T31 l0 x10_1).f0)) ∧ w'.cell? ⟨gb107, 1, none⟩ = some (.int .i64 ((rd_T31 l0 x10_1).f1)) ∧ w'.cell? ⟨gb107, 2, none⟩ = some (.bool ((rd_T31 l0 x10_1).f2)) ∧ w'.cell? ⟨gb107, 3, none⟩ = some (.bool ((rd_T31 l0 x10_1).f3)) ∧ w'.cell? ⟨gb107, 4, none⟩ = some (.bool ((rd_T31 l0 x10_1).f4)) ∧ w'.cell? ⟨gb107, 5, none⟩ = some (.int .i64 ((rd_T31 l0 x10_1).f5))) (ds := []) #[false, false, false, false, false, false, false, false, false, false, false, false, false, false, false, false, false, false, false] (by kernel_rfl) rfl rfl ⟨(blk_cell BK107.out 0).trans rfl, (blk_cell BK107.out 1).trans rfl, (blk_cell BK107.out 2).trans rfl, (blk_cell BK107.out 3).trans rfl, (blk_cell BK107.out 4).trans rfl, (blk_cell BK107.out 5).trans rfl⟩ (fun hHeld => ?_); refine with_tabW wage_Valid.tab6 wage_Valid.bits6 (fun HT_ HW_ => ?_)
                  generalize w21.drew = w22 at BK107 HB hHeld ⊢
                  refine pure_ (i := 0) (N := some 15) (v := ?_) (a' := ?_) #[true, false, false, false, false, false, false, false, false, false, false, false, false, false, false, false, false, false, false] rfl rfl (any_of HT_.out (by kernel_rfl)) (fun _ _ _ h => h) (Or.inl ⟨by rfl, ?_⟩) ?_ ?_
                  rotate_left
                  · intro w'
                    go_simp
                    with_reducible rfl
                  rotate_left
                  · simp only [Act.put, List.setIfInBounds_toArray, List.set_cons_zero, List.set_cons_succ, i64_w, i32_w]
                    rfl
                  refine take_ (i := 1) (N := some 16) (v := ?_) (a' := ?_) #[true, true, false, false, false, false, false, false, false, false, false, false, false, false, false, false, false, false, false] rfl rfl (take_ofW HT_.out HW_.out (by kernel_rfl)) (fun _ _ _ h => h) (Or.inl ⟨by rfl, ?_⟩) hHeld ?_ ?_
                  rotate_left
                  · rintro w' ⟨s0, s1, s2, s3, s4, s5⟩
                    go_simp
                    with_reducible rfl
                  rotate_left
                  · simp only [Act.put, List.setIfInBounds_toArray, List.set_cons_zero, List.set_cons_succ, i64_w, i32_w]
                    rfl
                  refine one_ (i := 2) (N := some 17) #[true, true, true, false, false, false, false, false, false, false, false, false, false, false, false, false, false, false, false] rfl rfl (one_of HT_.out (by kernel_rfl)) (by decide) (fun K hK => ?_)
                  refine goes_ Try.func33 (by kernel_rfl) rfl #[.string ((rd_T31 l0 x10_1).f0)] (by rfl) rfl rfl (by (try simp only [List.map_toArray, List.map_cons, List.map_nil]); first | done | rfl | (simp only [List.length_drop, List.length_take]; rfl)) ?_
                  with_reducible refine (token_IsName.calls k1 ((rd_T31 l0 x10_1).f0) false _ A9.out).mono ?_
                  rintro e w23 ⟨rfl, hb⟩
                  refine ⟨_, rfl, ?_⟩
                  have n0_ := Aside0.mk (blk_below (g := gb107) (o := .cells #[.string ((rd_T31 l0 x10_1).f0), .int .i64 ((rd_T31 l0 x10_1).f1), .bool ((rd_T31 l0 x10_1).f2), .bool ((rd_T31 l0 x10_1).f3), .bool ((rd_T31 l0 x10_1).f4), .int .i64 ((rd_T31 l0 x10_1).f5)] 31 (0, 0)) (by (with_reducible repeat (first | refine blk_drewN ?_ _ | refine blk_drew ?_ | refine blk_alloc ?_ _)); exact BK107.out) hb)
                  have n1_ := Aside0.mk (below_step (by repeat (first | (with_reducible first | exact HB.out | apply below_alloc | apply pw_below_drewN | apply below_drew1 | refine below_set ?_ GE107.out) | exact HB.out)) hb)
                  clear BK107
                  clear HB
                  have BK107 := n0_
                  have HB := n1_
                  clear n0_ n1_
                  (try clear hb)
                  (try clear hb2)
                  (try clear hk)
                  (try clear hi)
                  refine hK.out _ _ ⟨(blk_cell BK107.out 0).trans rfl, (blk_cell BK107.out 1).trans rfl, (blk_cell BK107.out 2).trans rfl, (blk_cell BK107.out 3).trans rfl, (blk_cell BK107.out 4).trans rfl, (blk_cell BK107.out 5).trans rfl⟩ (fun hHeld => ?_)
                  clear hK K
                  refine norm_ (a' := ?_) ?_ ?_
                  rotate_left
                  · show Act.put _ (some 17) _ = _
                    simp only [Act.put, List.setIfInBounds_toArray, List.set_cons_zero, List.set_cons_succ, i64_w, i32_w]
                    rfl
                  refine pure_ (i := 3) (N := some 18) (v := ?_) (a' := ?_) #[true, true, true, true, false, false, false, false, false, false, false, false, false, false, false, false, false, false, false] rfl rfl (any_of HT_.out (by kernel_rfl)) (fun _ _ _ h => h) (Or.inl ⟨by rfl, ?_⟩) ?_ ?_
                  rotate_left
                  · intro w'
                    go_simp
                    with_reducible rfl
                  rotate_left
                  · simp only [Act.put, List.setIfInBounds_toArray, List.set_cons_zero, List.set_cons_succ, i64_w, i32_w]
                    rfl
                  refine pure_ (i := 4) (N := some 19) (v := ?_) (a' := ?_) #[true, true, true, true, true, false, false, false, false, false, false, false, false, false, false, false, false, false, false] rfl rfl (any_of HT_.out (by kernel_rfl)) (fun _ _ _ h => h) (Or.inl ⟨by rfl, ?_⟩) ?_ ?_
                  rotate_left
                  · intro w'
                    go_simp
                    with_reducible rfl
                  rotate_left
                  · simp only [Act.put, List.setIfInBounds_toArray, List.set_cons_zero, List.set_cons_succ, i64_w, i32_w]
                    rfl
                  refine pure_ (i := 5) (N := some 20) (v := undef) (a' := ?_) #[true, true, true, true, true, true, false, false, false, false, false, false, false, false, false, false, false, false, false] rfl rfl (any_of HT_.out (by kernel_rfl)) (fun _ _ _ h => h) (Or.inr ⟨by rfl, rfl⟩) ?_ ?_
                  rotate_left
                  · simp only [Act.put, List.setIfInBounds_toArray, List.set_cons_zero, List.set_cons_succ, i64_w, i32_w]
                    rfl
                  refine pure_ (i := 6) (N := some 21) (v := undef) (a' := ?_) #[true, true, true, true, true, true, true, false, false, false, false, false, false, false, false, false, false, false, false] rfl rfl (any_of HT_.out (by kernel_rfl)) (fun _ _ _ h => h) (Or.inr ⟨by rfl, rfl⟩) ?_ ?_
                  rotate_left
                  · simp only [Act.put, List.setIfInBounds_toArray, List.set_cons_zero, List.set_cons_succ, i64_w, i32_w]
                    rfl
                  refine pure_ (i := 7) (N := some 22) (v := undef) (a' := ?_) #[true, true, true, true, true, true, true, true, false, false, false, false, false, false, false, false, false, false, false] rfl rfl (any_of HT_.out (by kernel_rfl)) (fun _ _ _ h => h) (Or.inr ⟨by rfl, rfl⟩) ?_ ?_
                  rotate_left
                  · simp only [Act.put, List.setIfInBounds_toArray, List.set_cons_zero, List.set_cons_succ, i64_w, i32_w]
                    rfl
                  refine pure_ (i := 8) (N := some 23) (v := undef) (a' := ?_) #[true, true, true, true, true, true, true, true, true, false, false, false, false, false, false, false, false, false, false] rfl rfl (any_of HT_.out (by kernel_rfl)) (fun _ _ _ h => h) (Or.inr ⟨by rfl, rfl⟩) ?_ ?_
                  rotate_left
                  · simp only [Act.put, List.setIfInBounds_toArray, List.set_cons_zero, List.set_cons_succ, i64_w, i32_w]
                    rfl
                  refine pure_ (i := 9) (N := some 24) (v := undef) (a' := ?_) #[true, true, true, true, true, true, true, true, true, true, false, false, false, false, false, false, false, false, false] rfl rfl (any_of HT_.out (by kernel_rfl)) (fun _ _ _ h => h) (Or.inr ⟨by rfl, rfl⟩) ?_ ?_
                  rotate_left
                  · simp only [Act.put, List.setIfInBounds_toArray, List.set_cons_zero, List.set_cons_succ, i64_w, i32_w]
                    rfl
                  refine pure_ (i := 10) (N := some 25) (v := undef) (a' := ?_) #[true, true, true, true, true, true, true, true, true, true, true, false, false, false, false, false, false, false, false] rfl rfl (any_of HT_.out (by kernel_rfl)) (fun _ _ _ h => h) (Or.inr ⟨by rfl, rfl⟩) ?_ ?_
                  rotate_left
                  · simp only [Act.put, List.setIfInBounds_toArray, List.set_cons_zero, List.set_cons_succ, i64_w, i32_w]
                    rfl
                  refine pure_ (i := 11) (N := some 26) (v := undef) (a' := ?_) #[true, true, true, true, true, true, true, true, true, true, true, true, false, false, false, false, false, false, false] rfl rfl (any_of HT_.out (by kernel_rfl)) (fun _ _ _ h => h) (Or.inr ⟨by rfl, rfl⟩) ?_ ?_
                  rotate_left
                  · simp only [Act.put, List.setIfInBounds_toArray, List.set_cons_zero, List.set_cons_succ, i64_w, i32_w]
                    rfl
                  refine pure_ (i := 12) (N := some 27) (v := undef) (a' := ?_) #[true, true, true, true, true, true, true, true, true, true, true, true, true, false, false, false, false, false, false] rfl rfl (any_of HT_.out (by kernel_rfl)) (fun _ _ _ h => h) (Or.inr ⟨by rfl, rfl⟩) ?_ ?_
                  rotate_left
                  · simp only [Act.put, List.setIfInBounds_toArray, List.set_cons_zero, List.set_cons_succ, i64_w, i32_w]
                    rfl
                  refine pure_ (i := 13) (N := some 28) (v := undef) (a' := ?_) #[true, true, true, true, true, true, true, true, true, true, true, true, true, true, false, false, false, false, false] rfl rfl (any_of HT_.out (by kernel_rfl)) (fun _ _ _ h => h) (Or.inr ⟨by rfl, rfl⟩) ?_ ?_
                  rotate_left
                  · simp only [Act.put, List.setIfInBounds_toArray, List.set_cons_zero, List.set_cons_succ, i64_w, i32_w]
                    rfl
                  refine pure_ (i := 14) (N := some 29) (v := undef) (a' := ?_) #[true, true, true, true, true, true, true, true, true, true, true, true, true, true, true, false, false, false, false] rfl rfl (any_of HT_.out (by kernel_rfl)) (fun _ _ _ h => h) (Or.inr ⟨by rfl, rfl⟩) ?_ ?_
                  rotate_left
                  · simp only [Act.put, List.setIfInBounds_toArray, List.set_cons_zero, List.set_cons_succ, i64_w, i32_w]
                    rfl
                  refine pure_ (i := 15) (N := some 30) (v := undef) (a' := ?_) #[true, true, true, true, true, true, true, true, true, true, true, true, true, true, true, true, false, false, false] rfl rfl (any_of HT_.out (by kernel_rfl)) (fun _ _ _ h => h) (Or.inr ⟨by rfl, rfl⟩) ?_ ?_
                  rotate_left
                  · simp only [Act.put, List.setIfInBounds_toArray, List.set_cons_zero, List.set_cons_succ, i64_w, i32_w]
                    rfl
                  refine pure_ (i := 16) (N := some 31) (v := undef) (a' := ?_) #[true, true, true, true, true, true, true, true, true, true, true, true, true, true, true, true, true, false, false] rfl rfl (any_of HT_.out (by kernel_rfl)) (fun _ _ _ h => h) (Or.inr ⟨by rfl, rfl⟩) ?_ ?_
                  rotate_left
                  · simp only [Act.put, List.setIfInBounds_toArray, List.set_cons_zero, List.set_cons_succ, i64_w, i32_w]
                    rfl
                  refine pure_ (i := 17) (N := some 32) (v := undef) (a' := ?_) #[true, true, true, true, true, true, true, true, true, true, true, true, true, true, true, true, true, true, false] rfl rfl (any_of HT_.out (by kernel_rfl)) (fun _ _ _ h => h) (Or.inr ⟨by rfl, rfl⟩) ?_ ?_
                  rotate_left
                  · simp only [Act.put, List.setIfInBounds_toArray, List.set_cons_zero, List.set_cons_succ, i64_w, i32_w]
                    rfl
                  refine pure_ (i := 18) (N := some 33) (v := ?_) (a' := ?_) #[true, true, true, true, true, true, true, true, true, true, true, true, true, true, true, true, true, true, true] rfl rfl (any_of HT_.out (by kernel_rfl)) (fun _ _ _ h => h) (Or.inl ⟨by rfl, ?_⟩) ?_ ?_
                  rotate_left
                  · intro w'
                    go_simp
                    with_reducible rfl
                  rotate_left
                  · simp only [Act.put, List.setIfInBounds_toArray, List.set_cons_zero, List.set_cons_succ, i64_w, i32_w]
                    rfl
                  refine done_ (done_of HT_.out (by kernel_rfl)) ?_
                  try go_wp2
                  go_meet
                  case rel => exact ⟨_, (true), (by first | rfl | (simp; done) | (simp [*]; done)), H', ⟨by have := HK1.out; first | omega | exact Nat.le_refl _⟩, ⟨by (with_reducible repeat (first | refine blk_drewN ?_ _ | refine blk_drew ?_ | refine blk_alloc ?_ _)); exact BK107.out⟩, ⟨by repeat (first | (with_reducible first | exact HB.out | apply below_alloc | apply pw_below_drewN | apply below_drew1 | refine below_set ?_ GE107.out) | exact HB.out)⟩⟩
              case rest =>
                clear HC6
                try clear c1
                try clear p1
                try clear q1
                try clear hx1
                try clear c2
                try clear c2b0
                try clear c2b1
                try clear p2
                try clear c3
                try clear c3b0
                try clear c4
                try clear c4b0
                try clear c5
                try clear c5b0
                try clear p6
                try clear c10
                try clear p10
                try clear q10
                try clear hx10
                try clear c11
                try clear c11b0
                try clear c13
                try clear c13b0
                try clear c14
                try clear c14b0
                try clear c15
                try clear hcz8_0
                try clear hcz8_1
                try clear hcz8_2
                try clear hcz8_3
                try clear hcz8_4
                try clear hcz8_5
                try clear hfz8_0
                try clear hfz8_1
                try clear hfz8_2
                try clear hfz8_3
                try clear hfz8_4
                try clear hfz8_5
                try clear hx106_0
                try clear hx106_1
                try clear hx106_2
                try clear hx106_3
                try clear hx106_4
                try clear hx106_5
                try clear hx109_0
                try clear hx109_1
                try clear hx109_2
                try clear hx109_3
                try clear hx109_4
                try clear hx109_5
                try clear p106
                try clear p109
                try clear p2
                try clear q106
                try clear q109
                obtain ⟨kq, x33_5, rfl, HA, HJ5, BK107, HB⟩ := hcut
                cases kq with
                | zero => exact absurd HA.out (by simp [wage_Valid.j1])
                | succ kj5 =>
                  have H := HA.out
                  clear HA
                  simp only [wage_Valid.j1] at H
                  by_cases c24 : x33_5 = true
                  · subst c24
                    have H1 : (some false) = some r := by rw [if_pos rfl] at H; exact H
                    clear H
                    have H := H1
                    clear H1
                    obtain rfl := Option.some.inj H
                    go_wp2
                    go_ret
                    exact ⟨by first | rfl | (simp [errW_none, errW_some] <;> rfl) | (simp [*, errW_none, errW_some] <;> rfl), by repeat (first | (with_reducible first | exact HB.out | apply below_alloc | apply pw_below_drewN | apply below_drew1 | refine below_set ?_ GE107.out) | exact HB.out)⟩
                  · replace c24 := Bool.eq_false_iff.mpr c24
                    subst c24
                    have H1 : (if ((rd_T31 l0 x10_1).f1) = 1 then (if ((rd_T31 l0 x10_1).f1) = 2 then (wage_Valid.j2 kj5 l0 l0 (l0.length : Int) x10_1 ((rd_T31 l0 x10_1).f4) ((rd_T31 l0 x10_1).f0) ((rd_T31 l0 x10_1).f1) ((rd_T31 l0 x10_1).f2) ((rd_T31 l0 x10_1).f3) ((rd_T31 l0 x10_1).f4) ((rd_T31 l0 x10_1).f5)) else (wage_Valid.j2 kj5 l0 l0 (l0.length : Int) x10_1 false ((rd_T31 l0 x10_1).f0) ((rd_T31 l0 x10_1).f1) ((rd_T31 l0 x10_1).f2) ((rd_T31 l0 x10_1).f3) ((rd_T31 l0 x10_1).f4) ((rd_T31 l0 x10_1).f5))) else (if ((rd_T31 l0 x10_1).f1) = 2 then (wage_Valid.j2 kj5 l0 l0 (l0.length : Int) x10_1 ((rd_T31 l0 x10_1).f4) ((rd_T31 l0 x10_1).f0) ((rd_T31 l0 x10_1).f1) ((rd_T31 l0 x10_1).f2) ((rd_T31 l0 x10_1).f3) ((rd_T31 l0 x10_1).f4) ((rd_T31 l0 x10_1).f5)) else (wage_Valid.j2 kj5 l0 l0 (l0.length : Int) x10_1 true ((rd_T31 l0 x10_1).f0) ((rd_T31 l0 x10_1).f1) ((rd_T31 l0 x10_1).f2) ((rd_T31 l0 x10_1).f3) ((rd_T31 l0 x10_1).f4) ((rd_T31 l0 x10_1).f5)))) = some r := by rw [if_neg (show ¬ (false = true) by decide)] at H; exact H
                    clear H
                    have H := H1
                    clear H1
                    have HC25 := Aside0.mk H
                    clear H
                    go_upto_region 8 with (fail)
                    go_cut [50] (fun v50 wc => ∃ (kq : Nat) (x50_24 : Bool), v50 = .bool x50_24 ∧ Aside0 (wage_Valid.j2 kq l0 l0 (l0.length : Int) x10_1 x50_24 ((rd_T31 l0 x10_1).f0) ((rd_T31 l0 x10_1).f1) ((rd_T31 l0 x10_1).f2) ((rd_T31 l0 x10_1).f3) ((rd_T31 l0 x10_1).f4) ((rd_T31 l0 x10_1).f5) = some r) ∧ Aside0 (kq ≤ kj5) ∧ Aside0 (wc.heap[gb107]? = some (.cells #[.string ((rd_T31 l0 x10_1).f0), .int .i64 ((rd_T31 l0 x10_1).f1), .bool ((rd_T31 l0 x10_1).f2), .bool ((rd_T31 l0 x10_1).f3), .bool ((rd_T31 l0 x10_1).f4), .int .i64 ((rd_T31 l0 x10_1).f5)] 31 (0, 0))) ∧ Aside0 (Below w.heap.size w wc))
                    case first =>
                      have H := HC25.out
                      clear HC25
                      by_cases c26 : ((rd_T31 l0 x10_1).f1) = 1
                      · rw [if_pos c26] at H
                        have c26b0 : (((rd_T31 l0 x10_1).f1) == 1) = true := beq_iff_eq.mpr c26
                        have c26b1 : (((rd_T31 l0 x10_1).f1) != 1) = false := bne_eq_false_iff_eq.mpr c26
                        clear c26
                        (first | rw [c26b0] | (simp only [i64_w, i32_w]; rw [c26b0]) | skip)
                        by_cases c27 : ((rd_T31 l0 x10_1).f1) = 2
                        · rw [if_pos c27] at H
                          have c27b0 : (((rd_T31 l0 x10_1).f1) == 2) = true := beq_iff_eq.mpr c27
                          have c27b1 : (((rd_T31 l0 x10_1).f1) != 2) = false := bne_eq_false_iff_eq.mpr c27
                          clear c27
                          have H' := Aside0.mk H
                          clear H
                          have hcz28_0 : wc.cell? ⟨gb107, 0, none⟩ = some (.string ((rd_T31 l0 x10_1).f0)) := (blk_cell BK107.out 0).trans rfl
                          have hcz28_1 : wc.cell? ⟨gb107, 1, none⟩ = some (.int .i64 ((rd_T31 l0 x10_1).f1)) := (blk_cell BK107.out 1).trans rfl
                          have hcz28_2 : wc.cell? ⟨gb107, 2, none⟩ = some (.bool ((rd_T31 l0 x10_1).f2)) := (blk_cell BK107.out 2).trans rfl
                          have hcz28_3 : wc.cell? ⟨gb107, 3, none⟩ = some (.bool ((rd_T31 l0 x10_1).f3)) := (blk_cell BK107.out 3).trans rfl
                          have hcz28_4 : wc.cell? ⟨gb107, 4, none⟩ = some (.bool ((rd_T31 l0 x10_1).f4)) := (blk_cell BK107.out 4).trans rfl
                          have hcz28_5 : wc.cell? ⟨gb107, 5, none⟩ = some (.int .i64 ((rd_T31 l0 x10_1).f5)) := (blk_cell BK107.out 5).trans rfl
                          have hfz28_0 := blk_frozen BK107.out 0
                          have hfz28_1 := blk_frozen BK107.out 1
                          have hfz28_2 := blk_frozen BK107.out 2
                          have hfz28_3 := blk_frozen BK107.out 3
                          have hfz28_4 := blk_frozen BK107.out 4
                          have hfz28_5 := blk_frozen BK107.out 5
                          go_wp2
                          go_meet
                          case rel => exact ⟨_, (((rd_T31 l0 x10_1).f4)), (by first | rfl | (simp; done) | (simp [*]; done)), H', ⟨by have := HK1.out; have := HJ5.out; first | omega | exact Nat.le_refl _⟩, ⟨by (with_reducible repeat (first | refine blk_drewN ?_ _ | refine blk_drew ?_ | refine blk_alloc ?_ _)); exact BK107.out⟩, ⟨by repeat (first | (with_reducible first | exact HB.out | apply below_alloc | apply pw_below_drewN | apply below_drew1 | refine below_set ?_ GE107.out) | exact HB.out)⟩⟩
                        · rw [if_neg c27] at H
                          have c27b0 : (((rd_T31 l0 x10_1).f1) == 2) = false := beq_eq_false_iff_ne.mpr c27
                          have c27b1 : (((rd_T31 l0 x10_1).f1) != 2) = true := bne_iff_ne.mpr c27
                          have H' := Aside0.mk H
                          clear H
                          have hcz29_0 : wc.cell? ⟨gb107, 0, none⟩ = some (.string ((rd_T31 l0 x10_1).f0)) := (blk_cell BK107.out 0).trans rfl
                          have hcz29_1 : wc.cell? ⟨gb107, 1, none⟩ = some (.int .i64 ((rd_T31 l0 x10_1).f1)) := (blk_cell BK107.out 1).trans rfl
                          have hcz29_2 : wc.cell? ⟨gb107, 2, none⟩ = some (.bool ((rd_T31 l0 x10_1).f2)) := (blk_cell BK107.out 2).trans rfl
                          have hcz29_3 : wc.cell? ⟨gb107, 3, none⟩ = some (.bool ((rd_T31 l0 x10_1).f3)) := (blk_cell BK107.out 3).trans rfl
                          have hcz29_4 : wc.cell? ⟨gb107, 4, none⟩ = some (.bool ((rd_T31 l0 x10_1).f4)) := (blk_cell BK107.out 4).trans rfl
                          have hcz29_5 : wc.cell? ⟨gb107, 5, none⟩ = some (.int .i64 ((rd_T31 l0 x10_1).f5)) := (blk_cell BK107.out 5).trans rfl
                          have hfz29_0 := blk_frozen BK107.out 0
                          have hfz29_1 := blk_frozen BK107.out 1
                          have hfz29_2 := blk_frozen BK107.out 2
                          have hfz29_3 := blk_frozen BK107.out 3
                          have hfz29_4 := blk_frozen BK107.out 4
                          have hfz29_5 := blk_frozen BK107.out 5
                          go_wp2
                          go_meet
                          case rel => exact ⟨_, (false), (by first | rfl | (simp; done) | (simp [*]; done)), H', ⟨by have := HK1.out; have := HJ5.out; first | omega | exact Nat.le_refl _⟩, ⟨by (with_reducible repeat (first | refine blk_drewN ?_ _ | refine blk_drew ?_ | refine blk_alloc ?_ _)); exact BK107.out⟩, ⟨by repeat (first | (with_reducible first | exact HB.out | apply below_alloc | apply pw_below_drewN | apply below_drew1 | refine below_set ?_ GE107.out) | exact HB.out)⟩⟩
                      · rw [if_neg c26] at H
                        have c26b0 : (((rd_T31 l0 x10_1).f1) == 1) = false := beq_eq_false_iff_ne.mpr c26
                        have c26b1 : (((rd_T31 l0 x10_1).f1) != 1) = true := bne_iff_ne.mpr c26
                        (first | rw [c26b0] | (simp only [i64_w, i32_w]; rw [c26b0]) | skip)
                        by_cases c30 : ((rd_T31 l0 x10_1).f1) = 2
                        · rw [if_pos c30] at H
                          have c30b0 : (((rd_T31 l0 x10_1).f1) == 2) = true := beq_iff_eq.mpr c30
                          have c30b1 : (((rd_T31 l0 x10_1).f1) != 2) = false := bne_eq_false_iff_eq.mpr c30
                          clear c30
                          have H' := Aside0.mk H
                          clear H
                          have hcz31_0 : wc.cell? ⟨gb107, 0, none⟩ = some (.string ((rd_T31 l0 x10_1).f0)) := (blk_cell BK107.out 0).trans rfl
                          have hcz31_1 : wc.cell? ⟨gb107, 1, none⟩ = some (.int .i64 ((rd_T31 l0 x10_1).f1)) := (blk_cell BK107.out 1).trans rfl
                          have hcz31_2 : wc.cell? ⟨gb107, 2, none⟩ = some (.bool ((rd_T31 l0 x10_1).f2)) := (blk_cell BK107.out 2).trans rfl
                          have hcz31_3 : wc.cell? ⟨gb107, 3, none⟩ = some (.bool ((rd_T31 l0 x10_1).f3)) := (blk_cell BK107.out 3).trans rfl
                          have hcz31_4 : wc.cell? ⟨gb107, 4, none⟩ = some (.bool ((rd_T31 l0 x10_1).f4)) := (blk_cell BK107.out 4).trans rfl
                          have hcz31_5 : wc.cell? ⟨gb107, 5, none⟩ = some (.int .i64 ((rd_T31 l0 x10_1).f5)) := (blk_cell BK107.out 5).trans rfl
                          have hfz31_0 := blk_frozen BK107.out 0
                          have hfz31_1 := blk_frozen BK107.out 1
                          have hfz31_2 := blk_frozen BK107.out 2
                          have hfz31_3 := blk_frozen BK107.out 3
                          have hfz31_4 := blk_frozen BK107.out 4
                          have hfz31_5 := blk_frozen BK107.out 5
                          go_wp2
                          go_meet
                          case rel => exact ⟨_, (((rd_T31 l0 x10_1).f4)), (by first | rfl | (simp; done) | (simp [*]; done)), H', ⟨by have := HK1.out; have := HJ5.out; first | omega | exact Nat.le_refl _⟩, ⟨by (with_reducible repeat (first | refine blk_drewN ?_ _ | refine blk_drew ?_ | refine blk_alloc ?_ _)); exact BK107.out⟩, ⟨by repeat (first | (with_reducible first | exact HB.out | apply below_alloc | apply pw_below_drewN | apply below_drew1 | refine below_set ?_ GE107.out) | exact HB.out)⟩⟩
                        · rw [if_neg c30] at H
                          have c30b0 : (((rd_T31 l0 x10_1).f1) == 2) = false := beq_eq_false_iff_ne.mpr c30
                          have c30b1 : (((rd_T31 l0 x10_1).f1) != 2) = true := bne_iff_ne.mpr c30
                          have H' := Aside0.mk H
                          clear H
                          have hcz32_0 : wc.cell? ⟨gb107, 0, none⟩ = some (.string ((rd_T31 l0 x10_1).f0)) := (blk_cell BK107.out 0).trans rfl
                          have hcz32_1 : wc.cell? ⟨gb107, 1, none⟩ = some (.int .i64 ((rd_T31 l0 x10_1).f1)) := (blk_cell BK107.out 1).trans rfl
                          have hcz32_2 : wc.cell? ⟨gb107, 2, none⟩ = some (.bool ((rd_T31 l0 x10_1).f2)) := (blk_cell BK107.out 2).trans rfl
                          have hcz32_3 : wc.cell? ⟨gb107, 3, none⟩ = some (.bool ((rd_T31 l0 x10_1).f3)) := (blk_cell BK107.out 3).trans rfl
                          have hcz32_4 : wc.cell? ⟨gb107, 4, none⟩ = some (.bool ((rd_T31 l0 x10_1).f4)) := (blk_cell BK107.out 4).trans rfl
                          have hcz32_5 : wc.cell? ⟨gb107, 5, none⟩ = some (.int .i64 ((rd_T31 l0 x10_1).f5)) := (blk_cell BK107.out 5).trans rfl
                          have hfz32_0 := blk_frozen BK107.out 0
                          have hfz32_1 := blk_frozen BK107.out 1
                          have hfz32_2 := blk_frozen BK107.out 2
                          have hfz32_3 := blk_frozen BK107.out 3
                          have hfz32_4 := blk_frozen BK107.out 4
                          have hfz32_5 := blk_frozen BK107.out 5
                          go_wp2
                          go_meet
                          case rel => exact ⟨_, (true), (by first | rfl | (simp; done) | (simp [*]; done)), H', ⟨by have := HK1.out; have := HJ5.out; first | omega | exact Nat.le_refl _⟩, ⟨by (with_reducible repeat (first | refine blk_drewN ?_ _ | refine blk_drew ?_ | refine blk_alloc ?_ _)); exact BK107.out⟩, ⟨by repeat (first | (with_reducible first | exact HB.out | apply below_alloc | apply pw_below_drewN | apply below_drew1 | refine below_set ?_ GE107.out) | exact HB.out)⟩⟩
                    case rest =>
                      clear HC25
                      try clear c1
                      try clear p1
                      try clear q1
                      try clear hx1
                      try clear c2
                      try clear c2b0
                      try clear c2b1
                      try clear p2
                      try clear c3
                      try clear c3b0
                      try clear c4
                      try clear c4b0
                      try clear c5
                      try clear c5b0
                      try clear p6
                      try clear c10
                      try clear p10
                      try clear q10
                      try clear hx10
                      try clear c11
                      try clear c11b0
                      try clear c13
                      try clear c13b0
                      try clear c14
                      try clear c14b0
                      try clear c15
                      try clear c24
                      try clear c26
                      try clear c26b0
                      try clear c26b1
                      try clear c27
                      try clear c27b0
                      try clear c27b1
                      try clear c30
                      try clear c30b0
                      try clear c30b1
                      try clear hcz28_0
                      try clear hcz28_1
                      try clear hcz28_2
                      try clear hcz28_3
                      try clear hcz28_4
                      try clear hcz28_5
                      try clear hcz29_0
                      try clear hcz29_1
                      try clear hcz29_2
                      try clear hcz29_3
                      try clear hcz29_4
                      try clear hcz29_5
                      try clear hcz31_0
                      try clear hcz31_1
                      try clear hcz31_2
                      try clear hcz31_3
                      try clear hcz31_4
                      try clear hcz31_5
                      try clear hcz32_0
                      try clear hcz32_1
                      try clear hcz32_2
                      try clear hcz32_3
                      try clear hcz32_4
                      try clear hcz32_5
                      try clear hcz8_0
                      try clear hcz8_1
                      try clear hcz8_2
                      try clear hcz8_3
                      try clear hcz8_4
                      try clear hcz8_5
                      try clear hfz28_0
                      try clear hfz28_1
                      try clear hfz28_2
                      try clear hfz28_3
                      try clear hfz28_4
                      try clear hfz28_5
                      try clear hfz29_0
                      try clear hfz29_1
                      try clear hfz29_2
                      try clear hfz29_3
                      try clear hfz29_4
                      try clear hfz29_5
                      try clear hfz31_0
                      try clear hfz31_1
                      try clear hfz31_2
                      try clear hfz31_3
                      try clear hfz31_4
                      try clear hfz31_5
                      try clear hfz32_0
                      try clear hfz32_1
                      try clear hfz32_2
                      try clear hfz32_3
                      try clear hfz32_4
                      try clear hfz32_5
                      try clear hfz8_0
                      try clear hfz8_1
                      try clear hfz8_2
                      try clear hfz8_3
                      try clear hfz8_4
                      try clear hfz8_5
                      try clear hx106_0
                      try clear hx106_1
                      try clear hx106_2
                      try clear hx106_3
                      try clear hx106_4
                      try clear hx106_5
                      try clear hx109_0
                      try clear hx109_1
                      try clear hx109_2
                      try clear hx109_3
                      try clear hx109_4
                      try clear hx109_5
                      try clear p1
                      try clear p10
                      try clear p106
                      try clear p109
                      try clear p2
                      try clear p6
                      try clear q1
                      try clear q10
                      try clear q106
                      try clear q109
                      obtain ⟨kq, x50_24, rfl, HA, HJ24, BK107, HB⟩ := hcut
                      cases kq with
                      | zero => exact absurd HA.out (by simp [wage_Valid.j2])
                      | succ kj24 =>
                        have H := HA.out
                        clear HA
                        simp only [wage_Valid.j2] at H
                        by_cases c33 : x50_24 = true
                        · subst c33
                          have H1 : (some false) = some r := by rw [if_pos rfl] at H; exact H
                          clear H
                          have H := H1
                          clear H1
                          obtain rfl := Option.some.inj H
                          go_wp2
                          go_ret
                          exact ⟨by first | rfl | (simp [errW_none, errW_some] <;> rfl) | (simp [*, errW_none, errW_some] <;> rfl), by repeat (first | (with_reducible first | exact HB.out | apply below_alloc | apply pw_below_drewN | apply below_drew1 | refine below_set ?_ GE107.out) | exact HB.out)⟩
                        · replace c33 := Bool.eq_false_iff.mpr c33
                          subst c33
                          have H1 : (if ((rd_T31 l0 x10_1).f5) < 1000 then (some false) else (if ((rd_T31 l0 x10_1).f5) > 9999 then (some false) else (wage_Valid.l0 kj24 l0 l0 (l0.length : Int) (wrap64 (x10_1 + 1))))) = some r := by rw [if_neg (show ¬ (false = true) by decide)] at H; exact H
                          clear H
                          have H := H1
                          clear H1
                          by_cases c34 : ((rd_T31 l0 x10_1).f5) < 1000
                          · rw [if_pos c34] at H
                            have c34b0 : decide (((rd_T31 l0 x10_1).f5) < 1000) = true := decide_eq_true c34
                            clear c34
                            obtain rfl := Option.some.inj H
                            have hcz35_0 : wc.cell? ⟨gb107, 0, none⟩ = some (.string ((rd_T31 l0 x10_1).f0)) := (blk_cell BK107.out 0).trans rfl
                            have hcz35_1 : wc.cell? ⟨gb107, 1, none⟩ = some (.int .i64 ((rd_T31 l0 x10_1).f1)) := (blk_cell BK107.out 1).trans rfl
                            have hcz35_2 : wc.cell? ⟨gb107, 2, none⟩ = some (.bool ((rd_T31 l0 x10_1).f2)) := (blk_cell BK107.out 2).trans rfl
                            have hcz35_3 : wc.cell? ⟨gb107, 3, none⟩ = some (.bool ((rd_T31 l0 x10_1).f3)) := (blk_cell BK107.out 3).trans rfl
                            have hcz35_4 : wc.cell? ⟨gb107, 4, none⟩ = some (.bool ((rd_T31 l0 x10_1).f4)) := (blk_cell BK107.out 4).trans rfl
                            have hcz35_5 : wc.cell? ⟨gb107, 5, none⟩ = some (.int .i64 ((rd_T31 l0 x10_1).f5)) := (blk_cell BK107.out 5).trans rfl
                            have hfz35_0 := blk_frozen BK107.out 0
                            have hfz35_1 := blk_frozen BK107.out 1
                            have hfz35_2 := blk_frozen BK107.out 2
                            have hfz35_3 := blk_frozen BK107.out 3
                            have hfz35_4 := blk_frozen BK107.out 4
                            have hfz35_5 := blk_frozen BK107.out 5
                            go_wp2
                            go_ret
                            exact ⟨by first | rfl | (simp [errW_none, errW_some] <;> rfl) | (simp [*, errW_none, errW_some] <;> rfl), by repeat (first | (with_reducible first | exact HB.out | apply below_alloc | apply pw_below_drewN | apply below_drew1 | refine below_set ?_ GE107.out) | exact HB.out)⟩
                          · rw [if_neg c34] at H
                            have c34b0 : decide (((rd_T31 l0 x10_1).f5) < 1000) = false := decide_eq_false c34
                            clear c34
                            by_cases c36 : ((rd_T31 l0 x10_1).f5) > 9999
                            · rw [if_pos c36] at H
                              have c36b0 : decide (9999 < ((rd_T31 l0 x10_1).f5)) = true := decide_eq_true c36
                              clear c36
                              obtain rfl := Option.some.inj H
                              have hcz37_0 : wc.cell? ⟨gb107, 0, none⟩ = some (.string ((rd_T31 l0 x10_1).f0)) := (blk_cell BK107.out 0).trans rfl
                              have hcz37_1 : wc.cell? ⟨gb107, 1, none⟩ = some (.int .i64 ((rd_T31 l0 x10_1).f1)) := (blk_cell BK107.out 1).trans rfl
                              have hcz37_2 : wc.cell? ⟨gb107, 2, none⟩ = some (.bool ((rd_T31 l0 x10_1).f2)) := (blk_cell BK107.out 2).trans rfl
                              have hcz37_3 : wc.cell? ⟨gb107, 3, none⟩ = some (.bool ((rd_T31 l0 x10_1).f3)) := (blk_cell BK107.out 3).trans rfl
                              have hcz37_4 : wc.cell? ⟨gb107, 4, none⟩ = some (.bool ((rd_T31 l0 x10_1).f4)) := (blk_cell BK107.out 4).trans rfl
                              have hcz37_5 : wc.cell? ⟨gb107, 5, none⟩ = some (.int .i64 ((rd_T31 l0 x10_1).f5)) := (blk_cell BK107.out 5).trans rfl
                              have hfz37_0 := blk_frozen BK107.out 0
                              have hfz37_1 := blk_frozen BK107.out 1
                              have hfz37_2 := blk_frozen BK107.out 2
                              have hfz37_3 := blk_frozen BK107.out 3
                              have hfz37_4 := blk_frozen BK107.out 4
                              have hfz37_5 := blk_frozen BK107.out 5
                              go_wp2
                              go_ret
                              exact ⟨by first | rfl | (simp [errW_none, errW_some] <;> rfl) | (simp [*, errW_none, errW_some] <;> rfl), by repeat (first | (with_reducible first | exact HB.out | apply below_alloc | apply pw_below_drewN | apply below_drew1 | refine below_set ?_ GE107.out) | exact HB.out)⟩
                            · rw [if_neg c36] at H
                              have c36b0 : decide (9999 < ((rd_T31 l0 x10_1).f5)) = false := decide_eq_false c36
                              clear c36
                              have H' := Aside0.mk H
                              clear H
                              have hcz38_0 : wc.cell? ⟨gb107, 0, none⟩ = some (.string ((rd_T31 l0 x10_1).f0)) := (blk_cell BK107.out 0).trans rfl
                              have hcz38_1 : wc.cell? ⟨gb107, 1, none⟩ = some (.int .i64 ((rd_T31 l0 x10_1).f1)) := (blk_cell BK107.out 1).trans rfl
                              have hcz38_2 : wc.cell? ⟨gb107, 2, none⟩ = some (.bool ((rd_T31 l0 x10_1).f2)) := (blk_cell BK107.out 2).trans rfl
                              have hcz38_3 : wc.cell? ⟨gb107, 3, none⟩ = some (.bool ((rd_T31 l0 x10_1).f3)) := (blk_cell BK107.out 3).trans rfl
                              have hcz38_4 : wc.cell? ⟨gb107, 4, none⟩ = some (.bool ((rd_T31 l0 x10_1).f4)) := (blk_cell BK107.out 4).trans rfl
                              have hcz38_5 : wc.cell? ⟨gb107, 5, none⟩ = some (.int .i64 ((rd_T31 l0 x10_1).f5)) := (blk_cell BK107.out 5).trans rfl
                              have hfz38_0 := blk_frozen BK107.out 0
                              have hfz38_1 := blk_frozen BK107.out 1
                              have hfz38_2 := blk_frozen BK107.out 2
                              have hfz38_3 := blk_frozen BK107.out 3
                              have hfz38_4 := blk_frozen BK107.out 4
                              have hfz38_5 := blk_frozen BK107.out 5
                              go_wp2
                              go_roundg kj24
                              case measure => have := HK1.out; have := HJ5.out; have := HJ24.out; omega
                              case rel => exact ⟨(wrap64 (x10_1 + 1)), (by first | rfl | (simp; done) | (simp [*]; done)), H', ⟨by have := HK1.out; have := HJ5.out; have := HJ24.out; omega⟩, ⟨by repeat (first | (with_reducible first | exact HB.out | apply below_alloc | apply pw_below_drewN | apply below_drew1 | refine below_set ?_ GE107.out) | exact HB.out)⟩⟩
            · rw [if_neg c5] at H
              exact absurd H (by simp)
          · rw [if_neg c4] at H
            exact absurd H (by simp)
        · rw [if_neg c3] at H
          have c3b0 : decide (x10_1 < (l0.length : Int)) = false := decide_eq_false c3
          clear c3
          obtain rfl := Option.some.inj H
          go_wp2
          go_ret
          exact ⟨by first | rfl | (simp [errW_none, errW_some] <;> rfl) | (simp [*, errW_none, errW_some] <;> rfl), by repeat (first | (with_reducible first | exact HB.out | apply below_alloc | apply pw_below_drewN | apply below_drew1) | exact HB.out)⟩

end Go.Proofs.Ytbmcddmhfnnccaa.Q
