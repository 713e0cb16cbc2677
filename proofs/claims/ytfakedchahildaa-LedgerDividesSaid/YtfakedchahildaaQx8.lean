-- Printed by wip/xprint.py over the translation, with contracts proved by hand among them. Lean checks it.
import Derived.Test.YtfakedchahildaaQx0
import Derived.Test.YtfakedchahildaaQx1
import Derived.Test.YtfakedchahildaaQx2
import Derived.Test.YtfakedchahildaaQx7
namespace Go.Proofs.Ytfakedchahildaa.Q
open Go.RowKit Go.Proofs.YtfakedchahildaaW.PrintWords Go.Proofs.YtfakedchahildaaW.PrintLast Go.Proofs.YtfakedchahildaaW.PrintMore
attribute [local go_sem] max2_int min2_int max_two min_two max_three min_three max_four min_four   -- for this text's walks alone
set_option linter.unusedVariables false
set_option linter.unusedSimpArgs false

attribute [local go_sem high] eqA42
/-! ### payrolllaw44_awake: function 9 -/
def payrolllaw44_awake.f (k : Nat)  : Option (Bool) := (payrolllaw44_base.f).bind fun t160 => ((ledger_Entries.f k t160 (([(⟨1, 1, 0, (⟨1, (⟨#[98, 97, 115, 101]⟩ : ByteArray), 100⟩ : S26)⟩ : S28), (⟨1, 1, 0, (⟨6, (⟨#[]⟩ : ByteArray), 30⟩ : S26)⟩ : S28), (⟨1, 1, 0, (⟨9, (⟨#[]⟩ : ByteArray), 70⟩ : S26)⟩ : S28)] : List (S28)))).bind fun bt163 => (if bt163.2 = 0 then (if (bt163.1.length : Int) = 3 then (if 0 < (bt163.1.length : Int) then (if (((rd_T42 bt163.1 0).f0) == 1 && (((rd_T42 bt163.1 0).f1) == 100 && (((rd_T42 bt163.1 0).f2) == (-70)))) = true then (if 2 < (bt163.1.length : Int) then (if ((rd_T42 bt163.1 2).f2) = 100 then ((ledger_Balanced.f bt163.1).bind fun t169 => (some t169)) else (none)) else (none)) else (none)) else (none)) else (none)) else (none)))
theorem payrolllaw44_awake.mono : ∀ k, LeO (payrolllaw44_awake.f k ) (payrolllaw44_awake.f (k + 1) ) := by
  intro  k
  unfold payrolllaw44_awake.f
  repeat' first
      | (with_reducible exact ledger_Entries.mono _ _ _)
      | (with_reducible exact LeO.refl _)
      | (with_reducible exact LeO.none _)
      | (with_reducible refine LeO.ite ?_ ?_)
      | (with_reducible refine LeO.bind ?_ (fun _ => ?_))
      | exact ledger_Entries.mono _ _ _
      | exact LeO.none _
      | refine LeO.ite ?_ ?_
      | refine LeO.bind ?_ (fun _ => ?_)
set_option maxHeartbeats 8000000 in
set_option maxRecDepth 100000 in
theorem payrolllaw44_awake.calls (k : Nat)  (r : Bool) (w : World) (h : payrolllaw44_awake.f k  = some r) :
    Calls Try.prog 9 #[] w fun e w' => e = .returned (.bool r) ∧ Below w.heap.size w w' := by
  have hu26 := Try.underlying26
  have hu28 := Try.underlying28
  have hu42 := Try.underlying42
  have HB := Aside0.mk (Below.refl w.heap.size w)
  have H : ((payrolllaw44_base.f).bind fun t160 => ((ledger_Entries.f k t160 (([(⟨1, 1, 0, (⟨1, (⟨#[98, 97, 115, 101]⟩ : ByteArray), 100⟩ : S26)⟩ : S28), (⟨1, 1, 0, (⟨6, (⟨#[]⟩ : ByteArray), 30⟩ : S26)⟩ : S28), (⟨1, 1, 0, (⟨9, (⟨#[]⟩ : ByteArray), 70⟩ : S26)⟩ : S28)] : List (S28)))).bind fun bt163 => (if bt163.2 = 0 then (if (bt163.1.length : Int) = 3 then (if 0 < (bt163.1.length : Int) then (if (((rd_T42 bt163.1 0).f0) == 1 && (((rd_T42 bt163.1 0).f1) == 100 && (((rd_T42 bt163.1 0).f2) == (-70)))) = true then (if 2 < (bt163.1.length : Int) then (if ((rd_T42 bt163.1 2).f2) = 100 then ((ledger_Balanced.f bt163.1).bind fun t169 => (some t169)) else (none)) else (none)) else (none)) else (none)) else (none)) else (none)))) = some r := h
  clear h
  obtain ⟨y157, hy157⟩ : ∃ y_ : List (S28), y_ = (([(⟨1, 1, 0, (⟨1, (⟨#[98, 97, 115, 101]⟩ : ByteArray), 100⟩ : S26)⟩ : S28), (⟨1, 1, 0, (⟨6, (⟨#[]⟩ : ByteArray), 30⟩ : S26)⟩ : S28), (⟨1, 1, 0, (⟨9, (⟨#[]⟩ : ByteArray), 70⟩ : S26)⟩ : S28)] : List (S28))) := ⟨_, rfl⟩
  replace H : ((payrolllaw44_base.f).bind fun t160 => ((ledger_Entries.f k t160 y157).bind fun bt163 => (if bt163.2 = 0 then (if (bt163.1.length : Int) = 3 then (if 0 < (bt163.1.length : Int) then (if (((rd_T42 bt163.1 0).f0) == 1 && (((rd_T42 bt163.1 0).f1) == 100 && (((rd_T42 bt163.1 0).f2) == (-70)))) = true then (if 2 < (bt163.1.length : Int) then (if ((rd_T42 bt163.1 2).f2) = 100 then ((ledger_Balanced.f bt163.1).bind fun t169 => (some t169)) else (none)) else (none)) else (none)) else (none)) else (none)) else (none)))) = some r := by first | (rw [hy157]; with_reducible exact H) | (have H2_ := (Option.bind_some _ _).symm.trans H; rw [hy157]; with_reducible exact H2_) | (have H2_ := (Option.bind_some _ _).symm.trans H; with_reducible exact H2_) | with_reducible exact H | (rw [hy157]; exact H) | exact H
  have Ny157 := Aside0.mk hy157
  clear hy157
  replace H := Option.bind_eq_some_iff.mp H
  obtain ⟨t160, A10, H⟩ := H
  replace H : ((ledger_Entries.f k t160 y157).bind fun bt163 => (if bt163.2 = 0 then (if (bt163.1.length : Int) = 3 then (if 0 < (bt163.1.length : Int) then (if (((rd_T42 bt163.1 0).f0) == 1 && (((rd_T42 bt163.1 0).f1) == 100 && (((rd_T42 bt163.1 0).f2) == (-70)))) = true then (if 2 < (bt163.1.length : Int) then (if ((rd_T42 bt163.1 2).f2) = 100 then ((ledger_Balanced.f bt163.1).bind fun t169 => (some t169)) else (none)) else (none)) else (none)) else (none)) else (none)) else (none))) = some r := H
  have A1 := Aside0.mk A10
  clear A10
  replace H := Option.bind_eq_some_iff.mp H
  obtain ⟨⟨t163, t164⟩, A20, H⟩ := H
  replace H : (if t164 = 0 then (if (t163.length : Int) = 3 then (if 0 < (t163.length : Int) then (if (((rd_T42 t163 0).f0) == 1 && (((rd_T42 t163 0).f1) == 100 && (((rd_T42 t163 0).f2) == (-70)))) = true then (if 2 < (t163.length : Int) then (if ((rd_T42 t163 2).f2) = 100 then ((ledger_Balanced.f t163).bind fun t169 => (some t169)) else (none)) else (none)) else (none)) else (none)) else (none)) else (none)) = some r := H
  have A2 := Aside0.mk A20
  clear A20
  by_cases c3 : t164 = 0
  · rw [if_pos c3] at H
    have c3b0 : (t164 == 0) = true := beq_iff_eq.mpr c3
    have c3b1 : (t164 != 0) = false := bne_eq_false_iff_eq.mpr c3
    clear c3
    by_cases c4 : (t163.length : Int) = 3
    · rw [if_pos c4] at H
      have c4b0 : ((t163.length : Int) == 3) = true := beq_iff_eq.mpr c4
      have c4b1 : ((t163.length : Int) != 3) = false := bne_eq_false_iff_eq.mpr c4
      clear c4
      by_cases c5 : 0 < (t163.length : Int)
      · rw [if_pos c5] at H
        have c5b0 : decide (0 < (t163.length : Int)) = true := decide_eq_true c5
        have c5b1 : decide (0 < t163.length) = true := decide_eq_true (by omega)
        clear c5
        by_cases c6 : (((rd_T42 t163 0).f0) == 1 && (((rd_T42 t163 0).f1) == 100 && (((rd_T42 t163 0).f2) == (-70)))) = true
        · rw [if_pos c6] at H
          have c6b0 : (((rd_T42 t163 0).f0) == 1 && (((rd_T42 t163 0).f1) == 100 && (((rd_T42 t163 0).f2) == (-70)))) = true := c6
          (try (have c6b1 : decide (((rd_T42 t163 0).f0) = 1 && (((rd_T42 t163 0).f1) == 100 && (((rd_T42 t163 0).f2) == (-70)))) = true := by simpa using c6))
          (try (have c6b2 : (((rd_T42 t163 0).f0) == 1 && (((rd_T42 t163 0).f1) == 100 && (((rd_T42 t163 0).f2) == (-70)))) = true := by simpa using c6))
          clear c6
          by_cases c7 : 2 < (t163.length : Int)
          · rw [if_pos c7] at H
            have c7b0 : decide (2 < (t163.length : Int)) = true := decide_eq_true c7
            have c7b1 : decide (2 < t163.length) = true := decide_eq_true (by omega)
            clear c7
            by_cases c8 : ((rd_T42 t163 2).f2) = 100
            · rw [if_pos c8] at H
              have c8b0 : (((rd_T42 t163 2).f2) == 100) = true := beq_iff_eq.mpr c8
              have c8b1 : (((rd_T42 t163 2).f2) != 100) = false := bne_eq_false_iff_eq.mpr c8
              clear c8
              replace H := Option.bind_eq_some_iff.mp H
              obtain ⟨t169, A90, H⟩ := H
              replace H : (some t169) = some r := H
              have A9 := Aside0.mk A90
              clear A90
              obtain rfl := Option.some.inj H
              go_enter Try.func9, Try.ntmps9
              go_wp2_with (first | ((with_reducible refine gate_dst (N := 10) rfl ?_); (try (refine gate_guard (by rfl) ?_; dsimp only)); refine Kd.R_lit k28 _ 28 ?hg (N := 10) ?hd (xs := ([(⟨1, 1, 0, (⟨1, (⟨#[98, 97, 115, 101]⟩ : ByteArray), 100⟩ : S26)⟩ : S28), (⟨1, 1, 0, (⟨6, (⟨#[]⟩ : ByteArray), 30⟩ : S26)⟩ : S28), (⟨1, 1, 0, (⟨9, (⟨#[]⟩ : ByteArray), 70⟩ : S26)⟩ : S28)] : List (S28))) (inner := [.int .i64 1, .int .i64 1, .int .i64 0, .int .i64 1, .string (⟨#[98, 97, 115, 101]⟩ : ByteArray), .int .i64 100, .int .i64 1, .int .i64 1, .int .i64 0, .int .i64 6, .string (⟨#[]⟩ : ByteArray), .int .i64 30, .int .i64 1, .int .i64 1, .int .i64 0, .int .i64 9, .string (⟨#[]⟩ : ByteArray), .int .i64 70]) (ok := fun _ => True) (okp := fun _ => True) ?hr ?hp (fun _ hk => hk) trivial (Below.refl _ _) (Nat.le_refl _) (by simp) ?_; (case hd => rfl); (case hg => rfl); (case hr => first | (go_simp; done) | (go_simp; rfl)); (case hp => exact (Reps.c6 (show Kd.M k28 _ _ _ (⟨1, 1, 0, (⟨1, (⟨#[98, 97, 115, 101]⟩ : ByteArray), 100⟩ : S26)⟩ : S28) [.int .i64 1, .int .i64 1, .int .i64 0, .int .i64 1, .string (⟨#[98, 97, 115, 101]⟩ : ByteArray), .int .i64 100] from (k28_mkM _ _ _ (⟨1, 1, 0, (⟨1, (⟨#[98, 97, 115, 101]⟩ : ByteArray), 100⟩ : S26)⟩ : S28) )) (Reps.c6 (show Kd.M k28 _ _ _ (⟨1, 1, 0, (⟨6, (⟨#[]⟩ : ByteArray), 30⟩ : S26)⟩ : S28) [.int .i64 1, .int .i64 1, .int .i64 0, .int .i64 6, .string (⟨#[]⟩ : ByteArray), .int .i64 30] from (k28_mkM _ _ _ (⟨1, 1, 0, (⟨6, (⟨#[]⟩ : ByteArray), 30⟩ : S26)⟩ : S28) )) (Reps.c6 (show Kd.M k28 _ _ _ (⟨1, 1, 0, (⟨9, (⟨#[]⟩ : ByteArray), 70⟩ : S26)⟩ : S28) [.int .i64 1, .int .i64 1, .int .i64 0, .int .i64 9, .string (⟨#[]⟩ : ByteArray), .int .i64 70] from (k28_mkM _ _ _ (⟨1, 1, 0, (⟨9, (⟨#[]⟩ : ByteArray), 70⟩ : S26)⟩ : S28) )) (Reps.none _ _))))); intro v158 w10 ho11 hb hg_ hnew_; clear hg_ hnew_; (first | rw [← Ny157.out] at ho11 | (simp only [Int.reduceToNat] at ho11; rw [← Ny157.out] at ho11)); have n0_ := Aside0.mk (Kd.R_lower ho11 (below_size (by repeat (first | (with_reducible first | exact HB.out | apply below_alloc | apply pw_below_drewN | apply below_drew1) | exact HB.out)))); have n1_ := Aside0.mk (below_step (by repeat (first | (with_reducible first | exact HB.out | apply below_alloc | apply pw_below_drewN | apply below_drew1) | exact HB.out)) hb); clear HB; have HO159 := n0_; have HB := n1_; clear n0_ n1_; clear hb ho11) | ((with_reducible refine gate_callee (f := 15) rfl ?_); refine goesL_ (some 12) rfl rfl Try.func15 (by kernel_rfl) rfl #[] rfl (by (try simp only [List.map_toArray, List.map_cons, List.map_nil]); first | done | rfl | (simp only [List.length_drop, List.length_take]; rfl)) ?_; (with_reducible refine (payrolllaw44_base.calls  t160 _ A1.out).mono ?_); rintro e w12 ⟨v161, rfl, ho0, hb⟩; refine ⟨_, rfl, ?_⟩; have n0_ := Aside0.mk (Kd.R_below (by (with_reducible repeat (first | apply Kd.R_alloc | apply Kd.R_drewN | apply Kd.R_drew)); exact HO159.out) hb); have n1_ := Aside0.mk (Kd.R_lower ho0 (below_size (by repeat (first | (with_reducible first | exact HB.out | apply below_alloc | apply pw_below_drewN | apply below_drew1) | exact HB.out)))); have n2_ := Aside0.mk (below_step (by repeat (first | (with_reducible first | exact HB.out | apply below_alloc | apply pw_below_drewN | apply below_drew1) | exact HB.out)) hb); clear HO159; clear HB; have HO159 := n0_; have HO162 := n1_; have HB := n2_; clear n0_ n1_ n2_; (try clear hb); (try clear hb2); (try clear hk); (try clear hi); (try clear ho0); obtain ⟨Ao13, co13, eo13⟩ := Kd.R_slice HO162.out; subst eo13; obtain ⟨Ao14, co14, eo14⟩ := Kd.R_slice HO159.out; subst eo14) | ((with_reducible refine gate_callee (f := 12) rfl ?_); refine goesL_ (some 14) rfl rfl Try.func12 (by kernel_rfl) rfl #[.slice Ao13 t160.length co13, .slice Ao14 y157.length co14] rfl (by (try simp only [List.map_toArray, List.map_cons, List.map_nil]); first | done | rfl | (simp only [List.length_drop, List.length_take]; rfl)) ?_; (with_reducible refine (ledger_Entries.calls k _ _ t160 _ _ y157 t163 t164 _ ?side1 ?side2 ?side3 ?side4 A2.out).mono ?_); (case side1 => repeat (first | exact (Kd.R_reads' HO162.out).2.2 | (with_reducible refine Kd.C_alloc ?_ _) | (with_reducible refine Kd.C_drewN ?_ _) | (with_reducible refine Kd.C_drew ?_))); (case side2 => exact (Kd.R_reads' HO162.out).2.1); (case side3 => repeat (first | exact (Kd.R_reads' HO159.out).2.2 | (with_reducible refine Kd.C_alloc ?_ _) | (with_reducible refine Kd.C_drewN ?_ _) | (with_reducible refine Kd.C_drew ?_))); (case side4 => exact (Kd.R_reads' HO159.out).2.1); rintro e w15 ⟨v165, rfl, ho0, hb⟩; refine ⟨_, rfl, ?_⟩; have n0_ := Aside0.mk (Kd.R_below (by (with_reducible repeat (first | apply Kd.R_alloc | apply Kd.R_drewN | apply Kd.R_drew)); exact HO159.out) hb); have n1_ := Aside0.mk (Kd.R_below (by (with_reducible repeat (first | apply Kd.R_alloc | apply Kd.R_drewN | apply Kd.R_drew)); exact HO162.out) hb); have n2_ := Aside0.mk (Kd.R_lower ho0 (below_size (by repeat (first | (with_reducible first | exact HB.out | apply below_alloc | apply pw_below_drewN | apply below_drew1) | exact HB.out)))); have n3_ := Aside0.mk (below_step (by repeat (first | (with_reducible first | exact HB.out | apply below_alloc | apply pw_below_drewN | apply below_drew1) | exact HB.out)) hb); clear HO159; clear HO162; clear HB; have HO159 := n0_; have HO162 := n1_; have HO166 := n2_; have HB := n3_; clear n0_ n1_ n2_ n3_; (try clear hb); (try clear hb2); (try clear hk); (try clear hi); (try clear ho0); obtain ⟨Ao16, co16, eo16⟩ := Kd.R_slice HO166.out; subst eo16; have p167 : 0 ≤ (0 : Int) := (by omega); have q167 : 0 < (t163.length : Int) := of_decide_eq_true (by first | (with_reducible assumption) | assumption); obtain ⟨ad167, e167, hx167_0, hx167_1, hx167_2⟩ := at_T42 (Kd.R_reads' HO166.out).2.2 0 p167 q167; cases e167; have qi167 : (0 < t163.length) = True := eq_true (by omega); (try rw [show ((0 : Int)).toNat = 0 from rfl] at hx167_0); (try rw [show 0 * 3 = 0 from rfl] at hx167_0); (try rw [Addr.add_zero'] at hx167_0); (try rw [show ((0 : Int)).toNat = 0 from rfl] at hx167_1); (try rw [show 0 * 3 = 0 from rfl] at hx167_1); (try rw [Addr.add_zero'] at hx167_1); (try rw [show ((0 : Int)).toNat = 0 from rfl] at hx167_2); (try rw [show 0 * 3 = 0 from rfl] at hx167_2); (try rw [Addr.add_zero'] at hx167_2); replace p167 := eq_true p167; replace q167 := eq_true q167; have p168 : 0 ≤ (2 : Int) := (by omega); have q168 : 2 < (t163.length : Int) := of_decide_eq_true (by first | (with_reducible assumption) | assumption); obtain ⟨ad168, e168, hx168_0, hx168_1, hx168_2⟩ := at_T42 (Kd.R_reads' HO166.out).2.2 2 p168 q168; obtain rfl : ad167 = ad168 := (by injection e168); (try simp only [show (2 : Int).toNat = 2 from rfl, Nat.reduceMul, Nat.reduceEqDiff, Go.Addr.add, ↓reduceIte] at hx168_0); (try simp only [show (2 : Int).toNat = 2 from rfl, Nat.reduceMul, Nat.reduceEqDiff, Go.Addr.add, ↓reduceIte] at hx168_1); (try simp only [show (2 : Int).toNat = 2 from rfl, Nat.reduceMul, Nat.reduceEqDiff, Go.Addr.add, ↓reduceIte] at hx168_2); have qi168 : (2 < t163.length) = True := eq_true (by omega); (try rw [show ((2 : Int)).toNat = 2 from rfl] at hx168_0); (try rw [show 2 * 3 = 6 from rfl] at hx168_0); (try rw [show ((2 : Int)).toNat = 2 from rfl] at hx168_1); (try rw [show 2 * 3 = 6 from rfl] at hx168_1); (try rw [show ((2 : Int)).toNat = 2 from rfl] at hx168_2); (try rw [show 2 * 3 = 6 from rfl] at hx168_2); replace p168 := eq_true p168; replace q168 := eq_true q168) | (go_at_call 20; (with_reducible refine (ledger_Balanced.calls _ _ t163 t169 _ ?side1 ?side2 A9.out).mono ?_); (case side1 => repeat (first | exact (Kd.R_reads' HO166.out).2.2 | (with_reducible refine Kd.C_alloc ?_ _) | (with_reducible refine Kd.C_drewN ?_ _) | (with_reducible refine Kd.C_drew ?_))); (case side2 => exact (Kd.R_reads' HO166.out).2.1); rintro e w17 ⟨rfl, hb⟩; have n0_ := Aside0.mk (Kd.R_below (by (with_reducible repeat (first | apply Kd.R_alloc | apply Kd.R_drewN | apply Kd.R_drew)); exact HO159.out) hb); have n1_ := Aside0.mk (Kd.R_below (by (with_reducible repeat (first | apply Kd.R_alloc | apply Kd.R_drewN | apply Kd.R_drew)); exact HO162.out) hb); have n2_ := Aside0.mk (Kd.R_below (by (with_reducible repeat (first | apply Kd.R_alloc | apply Kd.R_drewN | apply Kd.R_drew)); exact HO166.out) hb); have n3_ := Aside0.mk (below_step (by repeat (first | (with_reducible first | exact HB.out | apply below_alloc | apply pw_below_drewN | apply below_drew1) | exact HB.out)) hb); clear HO159; clear HO162; clear HO166; clear HB; have HO159 := n0_; have HO162 := n1_; have HO166 := n2_; have HB := n3_; clear n0_ n1_ n2_ n3_; (try clear hb); (try clear hb2); (try clear hk); (try clear hi)))
              go_ret
              exact ⟨by first | rfl | (simp [errW_none, errW_some] <;> rfl) | (simp [*, errW_none, errW_some] <;> rfl), by repeat (first | (with_reducible first | exact HB.out | apply below_alloc | apply pw_below_drewN | apply below_drew1) | exact HB.out)⟩
            · rw [if_neg c8] at H
              exact absurd H (by simp)
          · rw [if_neg c7] at H
            exact absurd H (by simp)
        · rw [if_neg c6] at H
          exact absurd H (by simp)
      · rw [if_neg c5] at H
        exact absurd H (by simp)
    · rw [if_neg c4] at H
      exact absurd H (by simp)
  · rw [if_neg c3] at H
    exact absurd H (by simp)

/-! ### paygen_Mod: function 17 -/
def paygen_Mod.f (a0 : Int) (a1 : Int) : Option (Int) := if a1 = 0 then (none) else (if (Int.tmod a0 a1) < 0 then (some (wrap64 ((Int.tmod a0 a1) + a1))) else (some (Int.tmod a0 a1)))
set_option maxHeartbeats 8000000 in
set_option maxRecDepth 100000 in
theorem paygen_Mod.calls (a0 : Int) (a1 : Int) (r : Int) (w : World) (h : paygen_Mod.f a0 a1 = some r) :
    Calls Try.prog 17 #[.int .i64 a0, .int .i64 a1] w fun e w' => e = .returned (.int .i64 r) ∧ Drawn0 w w' := by
  have H : (if a1 = 0 then (none) else (if (Int.tmod a0 a1) < 0 then (some (wrap64 ((Int.tmod a0 a1) + a1))) else (some (Int.tmod a0 a1)))) = some r := h
  clear h
  by_cases c3 : a1 = 0
  · rw [if_pos c3] at H
    exact absurd H (by simp)
  · rw [if_neg c3] at H
    have c3b0 : (a1 == 0) = false := beq_eq_false_iff_ne.mpr c3
    have c3b1 : (a1 != 0) = true := bne_iff_ne.mpr c3
    by_cases c4 : (Int.tmod a0 a1) < 0
    · rw [if_pos c4] at H
      have c4b0 : decide ((Int.tmod a0 a1) < 0) = true := decide_eq_true c4
      clear c4
      obtain rfl := Option.some.inj H
      go_enter Try.func17, Try.ntmps17
      go_wp2
      go_ret
      exact ⟨by first | rfl | (simp; done) | (simp [*]; done), by repeat (first | exact Drawn0.refl _ | apply Drawn0.step)⟩
    · rw [if_neg c4] at H
      have c4b0 : decide ((Int.tmod a0 a1) < 0) = false := decide_eq_false c4
      clear c4
      obtain rfl := Option.some.inj H
      go_enter Try.func17, Try.ntmps17
      go_wp2
      go_ret
      exact ⟨by first | rfl | (simp; done) | (simp [*]; done), by repeat (first | exact Drawn0.refl _ | apply Drawn0.step)⟩

/-! ### api_Booked: function 45 -/
def api_Booked.f (l0 : List S42) : Option (List S42) := if l0.length ≤ 5864062014805 then some l0 else none
theorem api_Booked.keeps {W W2 : World} {base : Nat} {ok : Nat → Prop} (x : S42) (cs : List Value) (h : k42.K W x cs) : k42.M W2 base ok x cs := by
  rw [k42_open h]; exact k42_mkM _ _ _ x
set_option maxHeartbeats 8000000 in
set_option maxRecDepth 100000 in
theorem api_Booked.calls (A0 : Option Addr) (c0 : Nat) (l0 : List S42) (r1 : List S42) (w : World) (hr0 : Kd.C k42 w A0 l0.length l0) (hc0 : l0.length ≤ c0) (h : api_Booked.f l0 = some r1) :
    Calls Try.prog 45 #[.slice A0 l0.length c0] w fun e w' => ∃ v0_ : Value, e = .returned v0_ ∧ Kd.R k42 42 w' w.heap.size (fun _ => True) v0_ r1 ∧ Below w.heap.size w w' := by
  have q22 : ∀ (w : World) (a : Option Addr) (n c n' c' : Nat), (binOp .eql 32 (.slice a n c) (.slice none n' c')).run Try.prog w = .ok (.bool a.isNone) w := fun w a n c n' c' => Lib.run_eql_slice_nil w _ _ a n c n' c' Try.underlying32
  unfold api_Booked.f at h
  by_cases hl : l0.length ≤ 5864062014805
  · rw [if_pos hl] at h
    obtain rfl := Option.some.inj h
    have HL := Aside0.mk hl
    clear hl h
    cases A0 with
    | none =>
      have h0 : l0 = [] := by
        cases l0 with
        | nil => rfl
        | cons p r =>
          obtain ⟨ad, e, _⟩ := hr0.2.2 (by simp)
          cases e
      subst h0
      clear hr0 hc0
      go_enter Try.func45, Try.ntmps45
      go_wp2
      go_ret
      exact ⟨_, rfl, Kd.R_nil _ _ _ _ _, Below.refl _ _⟩
    | some ad =>
      have HR0 := Aside0.mk hr0
      clear hr0 hc0
      go_enter Try.func45, Try.ntmps45
      go_wp2_with (first
        | ((with_reducible refine gate_builtin (b := .append) (xs := #[.tmp 5, .tmp 6]) rfl ?_); at_builtin; refine Kd.R_append_rows k42 (Rr := k42.K (w.alloc (.cells #[] 42))) (w0 := w) w.heap.size rfl (.tmp 5) (.tmp 6) 32 42 (.agg #[(.int .i64 0), (.int .i64 0), (.int .i64 0)]) 24 rfl Try.underlying32 info42 rfl (by decide) (by omega) (.slice (some ⟨w.heap.size, 0, none⟩) 0 0) [] l0 _ _ _ (fun _ => True) (fun _ => False) rfl rfl ?aO ?aR api_Booked.keeps (fun _ h => h.elim) (fun _ _ => trivial) ?aB ?aS ?aL ?_; (case aO => exact ⟨fun _ _ => trivial, [], World.ownsRow_made w #[] 0 (Nat.le_refl _) (Nat.zero_le _) (by simp), Reps.none _ _⟩); (case aR => exact Kd.C_alloc HR0.out _); (case aB => exact below_alloc (Below.refl _ _) _); (case aS => simp); (case aL => have := HL.out; simp only [List.length_nil, Nat.zero_add]; omega); intro v1 w1 hO hB hg _; have HO := Aside0.mk hO; have HB := Aside0.mk hB; clear hO hB hg))
      go_ret
      exact ⟨_, rfl, HO.out, HB.out⟩
  · rw [if_neg hl] at h; cases h

/-! ### ledger_Trial: function 19 -/
def ledger_Trial.l0 : Nat → List (S42) → Int → Int → Option ((List (S42)) × Int)
  | 0, _, _, _ => none
  | k + 1, x4, x9, x10 => if x10 < x9 then (if 0 ≤ x10 then (if x10 < (x4.length : Int) then (ledger_Trial.l0 k (x4.set (x10 : Int).toNat (⟨0, (rd_T42 x4 x10).f1, (rd_T42 x4 x10).f2⟩ : S42)) x9 (wrap64 (x10 + 1))) else (none)) else (none)) else ((ledger_Merge.f x4).bind fun bt174 => (some (bt174.1, bt174.2)))
def ledger_Trial.f (k : Nat) (l0 : List (S42)) : Option ((List (S42)) × Int) := (api_Booked.f l0).bind fun t170 => (ledger_Trial.l0 k t170 (t170.length : Int) 0)
theorem ledger_Trial.mono_l : ∀ k, (∀ y0 y1 y2, LeO (ledger_Trial.l0 k y0 y1 y2) (ledger_Trial.l0 (k + 1) y0 y1 y2))
  | 0 => fun _ _ _ r h => by simp [ledger_Trial.l0] at h
  | k + 1 => by
    have ih0 := ledger_Trial.mono_l k
    · intro y0 y1 y2
      unfold ledger_Trial.l0
      repeat' first
      | (with_reducible exact ih0 _ _ _)
      | (with_reducible exact LeO.refl _)
      | (with_reducible exact LeO.none _)
      | (with_reducible refine LeO.ite ?_ ?_)
      | (with_reducible refine LeO.bind ?_ (fun _ => ?_))
      | exact ih0 _ _ _
      | exact LeO.none _
      | refine LeO.ite ?_ ?_
      | refine LeO.bind ?_ (fun _ => ?_)
theorem ledger_Trial.mono : ∀ a0 k, LeO (ledger_Trial.f k a0) (ledger_Trial.f (k + 1) a0) := by
  intro a0 k
  have ih0 := ledger_Trial.mono_l k
  unfold ledger_Trial.f
  repeat' first
      | (with_reducible exact ih0 _ _ _)
      | (with_reducible exact LeO.refl _)
      | (with_reducible exact LeO.none _)
      | (with_reducible refine LeO.ite ?_ ?_)
      | (with_reducible refine LeO.bind ?_ (fun _ => ?_))
      | exact ih0 _ _ _
      | exact LeO.none _
      | refine LeO.ite ?_ ?_
      | refine LeO.bind ?_ (fun _ => ?_)
set_option maxHeartbeats 8000000 in
set_option maxRecDepth 100000 in
theorem ledger_Trial.calls (k : Nat) (A0 : Option Addr) (c0 : Nat) (l0 : List (S42)) (r1 : List (S42)) (r2 : Int) (w : World) (hr0 : Kd.C k42 w A0 l0.length l0) (hc0 : l0.length ≤ c0) (h : ledger_Trial.f k l0 = some (r1, r2)) :
    Calls Try.prog 19 #[.slice A0 l0.length c0] w fun e w' => ∃ v0_ : Value, e = .returned (.tuple #[v0_, .int .i64 r2]) ∧ Kd.R k42 42 w' w.heap.size (fun _ => True) v0_ r1 ∧ Below w.heap.size w w' := by
  have HR0 := Aside0.mk hr0
  have HC0 := Aside0.mk hc0
  clear hr0 hc0
  have HB := Aside0.mk (Below.refl w.heap.size w)
  have H : ((api_Booked.f l0).bind fun t170 => (ledger_Trial.l0 k t170 (t170.length : Int) 0)) = some (r1, r2) := h
  clear h
  replace H := Option.bind_eq_some_iff.mp H
  obtain ⟨t170, A20, H⟩ := H
  replace H : (ledger_Trial.l0 k t170 (t170.length : Int) 0) = some (r1, r2) := H
  have A2 := Aside0.mk A20
  clear A20
  have H' := Aside0.mk H
  clear H
  go_enter Try.func19, Try.ntmps19
  go_wp2_with (first | ((with_reducible refine gate_callee (f := 45) rfl ?_); refine goesL_ (some 7) rfl rfl Try.func45 (by kernel_rfl) rfl #[.slice A0 l0.length c0] rfl (by (try simp only [List.map_toArray, List.map_cons, List.map_nil]); first | done | rfl | (simp only [List.length_drop, List.length_take]; rfl)) ?_; (with_reducible refine (api_Booked.calls _ _ l0 t170 _ ?side1 ?side2 A2.out).mono ?_); (case side1 => repeat (first | exact HR0.out | (with_reducible refine Kd.C_alloc ?_ _) | (with_reducible refine Kd.C_drewN ?_ _) | (with_reducible refine Kd.C_drew ?_))); (case side2 => exact HC0.out); rintro e w3 ⟨v171, rfl, ho0, hb⟩; refine ⟨_, rfl, ?_⟩; have n0_ := Aside0.mk (Kd.R_lower ho0 (below_size (by repeat (first | (with_reducible first | exact HB.out | apply below_alloc | apply pw_below_drewN | apply below_drew1) | exact HB.out)))); have n1_ := Aside0.mk (below_step (by repeat (first | (with_reducible first | exact HB.out | apply below_alloc | apply pw_below_drewN | apply below_drew1) | exact HB.out)) hb); clear HB; have HO172 := n0_; have HB := n1_; clear n0_ n1_; (try clear hb); (try clear hb2); (try clear hk); (try clear hi); (try clear ho0); obtain ⟨Ao4, co4, eo4⟩ := Kd.R_slice HO172.out; subst eo4))
  go_loopg [10] k (fun kq v10 w' => ∃ (x4_1 : List (S42)) (x10_1 : Int), v10 = .int .i64 x10_1 ∧ Aside0 (ledger_Trial.l0 kq x4_1 (t170.length : Int) x10_1 = some (r1, r2)) ∧ Aside0 (kq ≤ k) ∧ Aside0 (Kd.R k42 42 w' w.heap.size (fun _ => True) (.slice Ao4 t170.length co4) x4_1) ∧ Aside0 (Below w.heap.size w w'))
  case atStart => exact ⟨(t170), (0), (by first | rfl | (simp; done) | (simp [*]; done)), H', ⟨Nat.le_refl _⟩, ⟨by (with_reducible repeat (first | apply Kd.R_alloc | apply Kd.R_drewN | apply Kd.R_drew)); exact HO172.out⟩, ⟨by repeat (first | (with_reducible first | exact HB.out | apply below_alloc | apply pw_below_drewN | apply below_drew1) | exact HB.out)⟩⟩
  case round =>
    clear H'
    try clear c1
    try clear p2
    try clear c4
    obtain ⟨x4_1, x10_1, rfl, HA, HK1, HO_4, HB⟩ := hrel
    have hl4_1 := (Kd.R_reads' HO_4.out).1
    rw [hl4_1] at HO_4
    (try simp only [hl4_1])
    cases gk with
    | zero => exact absurd HA.out (by simp [ledger_Trial.l0])
    | succ k1 =>
      have H := HA.out
      clear HA
      simp only [ledger_Trial.l0] at H
      by_cases c5 : x10_1 < (t170.length : Int)
      · rw [if_pos c5] at H
        have c5b0 : decide (x10_1 < (t170.length : Int)) = true := decide_eq_true c5
        (try rw [hl4_1] at c5b0)
        clear c5
        by_cases c6 : 0 ≤ x10_1
        · rw [if_pos c6] at H
          have c6b0 : decide (0 ≤ x10_1) = true := decide_eq_true c6
          clear c6
          by_cases c7 : x10_1 < (x4_1.length : Int)
          · rw [if_pos c7] at H
            have c7b0 : decide (x10_1 < (x4_1.length : Int)) = true := decide_eq_true c7
            clear c7
            obtain ⟨y173, hy173⟩ : ∃ y_ : List (S42), y_ = (x4_1.set (x10_1 : Int).toNat (⟨0, (rd_T42 x4_1 x10_1).f1, (rd_T42 x4_1 x10_1).f2⟩ : S42)) := ⟨_, rfl⟩
            replace H : (ledger_Trial.l0 k1 y173 (t170.length : Int) (wrap64 (x10_1 + 1))) = some (r1, r2) := by first | (rw [hy173]; with_reducible exact H) | (have H2_ := (Option.bind_some _ _).symm.trans H; rw [hy173]; with_reducible exact H2_) | (have H2_ := (Option.bind_some _ _).symm.trans H; with_reducible exact H2_) | with_reducible exact H | (rw [hy173]; exact H) | exact H
            have Ny173 := Aside0.mk hy173
            clear hy173
            have H' := Aside0.mk H
            clear H
            have p8 : 0 ≤ (x10_1 : Int) := of_decide_eq_true (by first | (with_reducible assumption) | assumption)
            have q8 : (x10_1 : Int) < ((x4_1.length : Int) : Int) := of_decide_eq_true (by first | (with_reducible assumption) | assumption)
            obtain ⟨go8, co8, eo8, gb8, gl8, cl8, HG8⟩ := Kd.R_form HO_4.out (by omega)
            (first | cases eo8 | (injection eo8 with ea_ en_ ec_; (first | subst ea_ | (injection ea_ with ea_; subst ea_)); subst ec_; clear en_))
            have GB8 := Aside0.mk gb8
            have GG8 := Aside0.mk HG8
            clear gb8 gl8 HG8
            obtain ⟨ce8, hcl8, hM8, hcc8, hfr8⟩ := Kd.R_elem HO_4.out z42 (x10_1 : Int) p8 q8
            obtain rfl := k42_openM hM8
            have hx8_0 : wr.cell? ⟨go8, (x10_1 : Int).toNat * 3, none⟩ = some (.int .i64 ((rd_T42 x4_1 x10_1).f0)) := hcc8 0 _ rfl
            have hx8_1 : wr.cell? ⟨go8, (x10_1 : Int).toNat * 3 + 1, none⟩ = some (.int .i64 ((rd_T42 x4_1 x10_1).f1)) := hcc8 1 _ rfl
            have hx8_2 : wr.cell? ⟨go8, (x10_1 : Int).toNat * 3 + 2, none⟩ = some (.int .i64 ((rd_T42 x4_1 x10_1).f2)) := hcc8 2 _ rfl
            have hf8_0 : wr.frozen? ⟨go8, (x10_1 : Int).toNat * 3, none⟩ = false := hfr8 0
            have hf8_1 : wr.frozen? ⟨go8, (x10_1 : Int).toNat * 3 + 1, none⟩ = false := hfr8 1
            have hf8_2 : wr.frozen? ⟨go8, (x10_1 : Int).toNat * 3 + 2, none⟩ = false := hfr8 2
            clear hcl8 hcc8 hfr8 hM8
            replace p8 := eq_true p8
            replace q8 := eq_true q8
            have HX9 := Aside0.mk (show Kd.R k42 42 wr w.heap.size (fun _ => True) (.slice (some ⟨go8, 0, none⟩) x4_1.length co4) x4_1 from (by (with_reducible repeat (first | apply Kd.R_alloc | apply Kd.R_drewN | apply Kd.R_drew)); exact HO_4.out))
            obtain ⟨ce9, hcl9, hM9, hcc9, hfr9⟩ := Kd.R_elem HX9.out z42 (x10_1 : Int) (of_decide_eq_true (by first | (with_reducible assumption) | assumption)) (by have h_ : (x10_1 : Int) < ((x4_1.length : Int) : Int) := of_decide_eq_true (by first | (with_reducible assumption) | assumption); first | exact h_ | (have e_ := (Kd.R_reads' HO_4.out).1; omega) | simpa using h_)
            obtain rfl := k42_openM hM9
            have HP9 := Kd.R_seg HX9.out (x10_1 : Int) (of_decide_eq_true (by first | (with_reducible assumption) | assumption)) (by have h_ : (x10_1 : Int) < ((x4_1.length : Int) : Int) := of_decide_eq_true (by first | (with_reducible assumption) | assumption); first | exact h_ | (have e_ := (Kd.R_reads' HO_4.out).1; omega) | simpa using h_) (seg := [.int .i64 0]) (j := 0) hcl9 hcc9 (show 1 ≤ 3 from by decide) (x' := (⟨0, (rd_T42 x4_1 x10_1).f1, (rd_T42 x4_1 x10_1).f2⟩ : S42)) (k42_mkM _ _ _ (⟨0, (rd_T42 x4_1 x10_1).f1, (rd_T42 x4_1 x10_1).f2⟩ : S42) ) (fun _ hk => hk)
            have hx9_0 := hcc9 0 _ rfl
            (try simp only [show (k42).sz = 3 from rfl, Nat.mul_one, Nat.add_zero] at hx9_0)
            have hf9_0 := hfr9 0
            (try simp only [show (k42).sz = 3 from rfl, Nat.mul_one, Nat.add_zero] at hf9_0)
            clear hcl9 hcc9 hfr9 hM9
            go_wp2_with (first | ((with_reducible refine gate_store (t := 3) (p := 16) rfl ?_); refine store_event (t := 3) (p := 16) (v := ?vo_w10) (w1 := (wr.setCell ⟨go8, (x10_1 : Int).toNat * 3, none⟩ (.int .i64 0))) ?hg ?ho ?hn ?hr ?_; (case ho => rfl); (case hg => rfl); (case hn => rfl); (case hr => first | (go_simp; done) | (go_simp; rfl)); intro w10 hw; have hg : wr.grownBy w10 (some go8) := (by rw [hw]; exact HP9.2); have hp_ : Kd.R k42 42 w10 w.heap.size (fun _ => True) (.slice (some ⟨go8, 0, none⟩) x4_1.length co4) y173 := (by rw [hw, Ny173.out]; exact HP9.1); clear HP9; have n0_ := Aside0.mk (hp_); have n1_ := Aside0.mk ((by rw [hw]; exact below_set (HB.out) GB8.out : Below w.heap.size w w10)); clear HO_4; clear HB; have HO_4 := n0_; have HB := n1_; clear n0_ n1_; clear hg hw hp_))
            (try simp only [← hl4_1])
            go_roundg k1
            case measure => have := HK1.out; omega
            case rel => exact ⟨(y173), (wrap64 (x10_1 + 1)), (by first | rfl | (simp; done) | (simp [*]; done)), H', ⟨by have := HK1.out; omega⟩, ⟨by (try simp only [hl4_1]); (with_reducible repeat (first | apply Kd.R_alloc | apply Kd.R_drewN | apply Kd.R_drew)); exact HO_4.out⟩, ⟨by repeat (first | (with_reducible first | exact HB.out | apply below_alloc | apply pw_below_drewN | apply below_drew1) | exact HB.out)⟩⟩
          · rw [if_neg c7] at H
            exact absurd H (by simp)
        · rw [if_neg c6] at H
          exact absurd H (by simp)
      · rw [if_neg c5] at H
        have c5b0 : decide (x10_1 < (t170.length : Int)) = false := decide_eq_false c5
        (try rw [hl4_1] at c5b0)
        clear c5
        replace H := Option.bind_eq_some_iff.mp H
        obtain ⟨⟨t174, t175⟩, A110, H⟩ := H
        replace H : (some (t174, t175)) = some (r1, r2) := H
        have A11 := Aside0.mk A110
        clear A110
        simp only [Option.some.injEq, Prod.mk.injEq] at H
        obtain ⟨rfl, rfl⟩ := H
        go_wp2_with (first | ((with_reducible refine gate_callee (f := 18) rfl ?_); refine goesL_ (some 19) rfl rfl Try.func18 (by kernel_rfl) rfl #[.slice Ao4 x4_1.length co4] rfl (by (try simp only [List.map_toArray, List.map_cons, List.map_nil]); first | done | rfl | (simp only [List.length_drop, List.length_take]; rfl)) ?_; (with_reducible refine (ledger_Merge.calls _ _ x4_1 t174 t175 _ ?side1 ?side2 A11.out).mono ?_); (case side1 => repeat (first | exact (Kd.R_reads' HO_4.out).2.2 | (with_reducible refine Kd.C_alloc ?_ _) | (with_reducible refine Kd.C_drewN ?_ _) | (with_reducible refine Kd.C_drew ?_))); (case side2 => exact (Kd.R_reads' HO_4.out).2.1); rintro e w12 ⟨v176, rfl, ho0, hb⟩; refine ⟨_, rfl, ?_⟩; have n0_ := Aside0.mk (Kd.R_elder' (by (with_reducible repeat (first | apply Kd.R_alloc | apply Kd.R_drewN | apply Kd.R_drew)); exact HO_4.out) (Kd.R_base ho0) hb); have n1_ := Aside0.mk (Kd.R_lower (Kd.R_new' ho0 (Kd.R_lt (by (with_reducible repeat (first | apply Kd.R_alloc | apply Kd.R_drewN | apply Kd.R_drew)); exact HO_4.out))) (below_size (by repeat (first | (with_reducible first | exact HB.out | apply below_alloc | apply pw_below_drewN | apply below_drew1) | exact HB.out)))); have n2_ := Aside0.mk (below_step (by repeat (first | (with_reducible first | exact HB.out | apply below_alloc | apply pw_below_drewN | apply below_drew1) | exact HB.out)) hb); clear HO_4; clear HB; have HO_4 := n0_; have HO177 := n1_; have HB := n2_; clear n0_ n1_ n2_; (try clear hb); (try clear hb2); (try clear hk); (try clear hi); (try clear ho0)))
        go_ret2
        exact ⟨_, by first | rfl | (simp [errW_none, errW_some] <;> rfl) | (simp [*, errW_none, errW_some] <;> rfl), by (with_reducible repeat (first | apply Kd.R_alloc | apply Kd.R_drewN | apply Kd.R_drew)); exact Kd.R_mono HO177.out (fun _ hk => trivial), by repeat (first | (with_reducible first | exact HB.out | apply below_alloc | apply pw_below_drewN | apply below_drew1) | exact HB.out)⟩

end Go.Proofs.Ytfakedchahildaa.Q
