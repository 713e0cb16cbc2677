-- Printed by wip/xprint.py over the translation, with contracts proved by hand among them. Lean checks it.
import Derived.Test.YtfakedchahildaaQx0
namespace Go.Proofs.Ytfakedchahildaa.Q
open Go.RowKit Go.Proofs.YtfakedchahildaaW.PrintWords Go.Proofs.YtfakedchahildaaW.PrintLast Go.Proofs.YtfakedchahildaaW.PrintMore
attribute [local go_sem] max2_int min2_int max_two min_two max_three min_three max_four min_four   -- for this text's walks alone
set_option linter.unusedVariables false
set_option linter.unusedSimpArgs false

/-! ### ledger_total: function 40 -/
def ledger_total.f (a0 : Int) : Option (Bool) := if a0 ≥ (-1000000000000) then (some (decide (a0 ≤ 1000000000000))) else (some false)
set_option maxHeartbeats 8000000 in
set_option maxRecDepth 100000 in
theorem ledger_total.calls (a0 : Int) (r : Bool) (w : World) (h : ledger_total.f a0 = some r) :
    Calls Try.prog 40 #[.int .i64 a0] w fun e w' => e = .returned (.bool r) ∧ Drawn0 w w' := by
  have H : (if a0 ≥ (-1000000000000) then (some (decide (a0 ≤ 1000000000000))) else (some false)) = some r := h
  clear h
  by_cases c2 : a0 ≥ (-1000000000000)
  · rw [if_pos c2] at H
    have c2b0 : decide ((-1000000000000) ≤ a0) = true := decide_eq_true c2
    clear c2
    obtain rfl := Option.some.inj H
    go_enter Try.func40, Try.ntmps40
    go_wp2
    go_ret
    exact ⟨by first | rfl | (simp; done) | (simp [*]; done), by repeat (first | exact Drawn0.refl _ | apply Drawn0.step)⟩
  · rw [if_neg c2] at H
    have c2b0 : decide ((-1000000000000) ≤ a0) = false := decide_eq_false c2
    clear c2
    obtain rfl := Option.some.inj H
    go_enter Try.func40, Try.ntmps40
    go_wp2
    go_ret
    exact ⟨by first | rfl | (simp; done) | (simp [*]; done), by repeat (first | exact Drawn0.refl _ | apply Drawn0.step)⟩

/-! ### cmp_isNaN_int: function 60 -/
def cmp_isNaN_int.f (a0 : Int) : Option (Bool) := some (a0 != a0)
set_option maxHeartbeats 8000000 in
set_option maxRecDepth 100000 in
theorem cmp_isNaN_int.calls (a0 : Int) (r : Bool) (w : World) (h : cmp_isNaN_int.f a0 = some r) :
    Calls Try.prog 60 #[.int .i64 a0] w fun e w' => e = .returned (.bool r) ∧ Drawn0 w w' := by
  have H : (some (a0 != a0)) = some r := h
  clear h
  obtain rfl := Option.some.inj H
  go_enter Try.func60, Try.ntmps60
  go_wp2
  go_ret
  exact ⟨by first | rfl | (simp; done) | (simp [*]; done), by repeat (first | exact Drawn0.refl _ | apply Drawn0.step)⟩

/-! ### cmp_Compare_int: function 44 -/
def cmp_Compare_int.f (a0 : Int) (a1 : Int) : Option (Int) := (cmp_isNaN_int.f a0).bind fun t101 => ((cmp_isNaN_int.f a1).bind fun t102 => (if t101 = true then (if t102 = true then (some 0) else (some (-1))) else (if t102 = true then (some 1) else (if a0 < a1 then (some (-1)) else (if a0 > a1 then (some 1) else (some 0))))))
set_option maxHeartbeats 8000000 in
set_option maxRecDepth 100000 in
theorem cmp_Compare_int.calls (a0 : Int) (a1 : Int) (r : Int) (w : World) (h : cmp_Compare_int.f a0 a1 = some r) :
    Calls Try.prog 44 #[.int .i64 a0, .int .i64 a1] w fun e w' => e = .returned (.int .i64 r) ∧ Drawn0 w w' := by
  have H : ((cmp_isNaN_int.f a0).bind fun t101 => ((cmp_isNaN_int.f a1).bind fun t102 => (if t101 = true then (if t102 = true then (some 0) else (some (-1))) else (if t102 = true then (some 1) else (if a0 < a1 then (some (-1)) else (if a0 > a1 then (some 1) else (some 0))))))) = some r := h
  clear h
  replace H := Option.bind_eq_some_iff.mp H
  obtain ⟨t101, A30, H⟩ := H
  replace H : ((cmp_isNaN_int.f a1).bind fun t102 => (if t101 = true then (if t102 = true then (some 0) else (some (-1))) else (if t102 = true then (some 1) else (if a0 < a1 then (some (-1)) else (if a0 > a1 then (some 1) else (some 0)))))) = some r := H
  have A3 := Aside0.mk A30
  clear A30
  replace H := Option.bind_eq_some_iff.mp H
  obtain ⟨t102, A40, H⟩ := H
  replace H : (if t101 = true then (if t102 = true then (some 0) else (some (-1))) else (if t102 = true then (some 1) else (if a0 < a1 then (some (-1)) else (if a0 > a1 then (some 1) else (some 0))))) = some r := H
  have A4 := Aside0.mk A40
  clear A40
  by_cases c5 : t101 = true
  · subst c5
    have H1 : (if t102 = true then (some 0) else (some (-1))) = some r := by rw [if_pos rfl] at H; exact H
    clear H
    have H := H1
    clear H1
    by_cases c6 : t102 = true
    · subst c6
      have H1 : (some 0) = some r := by rw [if_pos rfl] at H; exact H
      clear H
      have H := H1
      clear H1
      obtain rfl := Option.some.inj H
      go_enter Try.func44, Try.ntmps44
      go_wp2_with (first | ((with_reducible refine gate_callee (f := 60) rfl ?_); refine goesL_ (some 8) rfl rfl Try.func60 (by kernel_rfl) rfl #[.int .i64 a0] rfl (by (try simp only [List.map_toArray, List.map_cons, List.map_nil]); first | done | rfl | (simp only [List.length_drop, List.length_take]; rfl)) ?_; (with_reducible refine (cmp_isNaN_int.calls a0 true _ A3.out).mono ?_); rintro e w' ⟨rfl, ⟨nd, rfl⟩⟩; refine ⟨_, rfl, ?_⟩) | ((with_reducible refine gate_callee (f := 60) rfl ?_); refine goesL_ (some 10) rfl rfl Try.func60 (by kernel_rfl) rfl #[.int .i64 a1] rfl (by (try simp only [List.map_toArray, List.map_cons, List.map_nil]); first | done | rfl | (simp only [List.length_drop, List.length_take]; rfl)) ?_; (with_reducible refine (cmp_isNaN_int.calls a1 true _ A4.out).mono ?_); rintro e w' ⟨rfl, ⟨nd, rfl⟩⟩; refine ⟨_, rfl, ?_⟩))
      go_ret
      exact ⟨by first | rfl | (simp; done) | (simp [*]; done), by repeat (first | exact Drawn0.refl _ | apply Drawn0.step)⟩
    · replace c6 := Bool.eq_false_iff.mpr c6
      subst c6
      have H1 : (some (-1)) = some r := by rw [if_neg (show ¬ (false = true) by decide)] at H; exact H
      clear H
      have H := H1
      clear H1
      obtain rfl := Option.some.inj H
      go_enter Try.func44, Try.ntmps44
      go_wp2_with (first | ((with_reducible refine gate_callee (f := 60) rfl ?_); refine goesL_ (some 8) rfl rfl Try.func60 (by kernel_rfl) rfl #[.int .i64 a0] rfl (by (try simp only [List.map_toArray, List.map_cons, List.map_nil]); first | done | rfl | (simp only [List.length_drop, List.length_take]; rfl)) ?_; (with_reducible refine (cmp_isNaN_int.calls a0 true _ A3.out).mono ?_); rintro e w' ⟨rfl, ⟨nd, rfl⟩⟩; refine ⟨_, rfl, ?_⟩) | ((with_reducible refine gate_callee (f := 60) rfl ?_); refine goesL_ (some 10) rfl rfl Try.func60 (by kernel_rfl) rfl #[.int .i64 a1] rfl (by (try simp only [List.map_toArray, List.map_cons, List.map_nil]); first | done | rfl | (simp only [List.length_drop, List.length_take]; rfl)) ?_; (with_reducible refine (cmp_isNaN_int.calls a1 false _ A4.out).mono ?_); rintro e w' ⟨rfl, ⟨nd, rfl⟩⟩; refine ⟨_, rfl, ?_⟩))
      go_ret
      exact ⟨by first | rfl | (simp; done) | (simp [*]; done), by repeat (first | exact Drawn0.refl _ | apply Drawn0.step)⟩
  · replace c5 := Bool.eq_false_iff.mpr c5
    subst c5
    have H1 : (if t102 = true then (some 1) else (if a0 < a1 then (some (-1)) else (if a0 > a1 then (some 1) else (some 0)))) = some r := by rw [if_neg (show ¬ (false = true) by decide)] at H; exact H
    clear H
    have H := H1
    clear H1
    by_cases c7 : t102 = true
    · subst c7
      have H1 : (some 1) = some r := by rw [if_pos rfl] at H; exact H
      clear H
      have H := H1
      clear H1
      obtain rfl := Option.some.inj H
      go_enter Try.func44, Try.ntmps44
      go_wp2_with (first | ((with_reducible refine gate_callee (f := 60) rfl ?_); refine goesL_ (some 8) rfl rfl Try.func60 (by kernel_rfl) rfl #[.int .i64 a0] rfl (by (try simp only [List.map_toArray, List.map_cons, List.map_nil]); first | done | rfl | (simp only [List.length_drop, List.length_take]; rfl)) ?_; (with_reducible refine (cmp_isNaN_int.calls a0 false _ A3.out).mono ?_); rintro e w' ⟨rfl, ⟨nd, rfl⟩⟩; refine ⟨_, rfl, ?_⟩) | ((with_reducible refine gate_callee (f := 60) rfl ?_); refine goesL_ (some 10) rfl rfl Try.func60 (by kernel_rfl) rfl #[.int .i64 a1] rfl (by (try simp only [List.map_toArray, List.map_cons, List.map_nil]); first | done | rfl | (simp only [List.length_drop, List.length_take]; rfl)) ?_; (with_reducible refine (cmp_isNaN_int.calls a1 true _ A4.out).mono ?_); rintro e w' ⟨rfl, ⟨nd, rfl⟩⟩; refine ⟨_, rfl, ?_⟩))
      go_ret
      exact ⟨by first | rfl | (simp; done) | (simp [*]; done), by repeat (first | exact Drawn0.refl _ | apply Drawn0.step)⟩
    · replace c7 := Bool.eq_false_iff.mpr c7
      subst c7
      have H1 : (if a0 < a1 then (some (-1)) else (if a0 > a1 then (some 1) else (some 0))) = some r := by rw [if_neg (show ¬ (false = true) by decide)] at H; exact H
      clear H
      have H := H1
      clear H1
      by_cases c8 : a0 < a1
      · rw [if_pos c8] at H
        have c8b0 : decide (a0 < a1) = true := decide_eq_true c8
        clear c8
        obtain rfl := Option.some.inj H
        go_enter Try.func44, Try.ntmps44
        go_wp2_with (first | ((with_reducible refine gate_callee (f := 60) rfl ?_); refine goesL_ (some 8) rfl rfl Try.func60 (by kernel_rfl) rfl #[.int .i64 a0] rfl (by (try simp only [List.map_toArray, List.map_cons, List.map_nil]); first | done | rfl | (simp only [List.length_drop, List.length_take]; rfl)) ?_; (with_reducible refine (cmp_isNaN_int.calls a0 false _ A3.out).mono ?_); rintro e w' ⟨rfl, ⟨nd, rfl⟩⟩; refine ⟨_, rfl, ?_⟩) | ((with_reducible refine gate_callee (f := 60) rfl ?_); refine goesL_ (some 10) rfl rfl Try.func60 (by kernel_rfl) rfl #[.int .i64 a1] rfl (by (try simp only [List.map_toArray, List.map_cons, List.map_nil]); first | done | rfl | (simp only [List.length_drop, List.length_take]; rfl)) ?_; (with_reducible refine (cmp_isNaN_int.calls a1 false _ A4.out).mono ?_); rintro e w' ⟨rfl, ⟨nd, rfl⟩⟩; refine ⟨_, rfl, ?_⟩))
        go_ret
        exact ⟨by first | rfl | (simp; done) | (simp [*]; done), by repeat (first | exact Drawn0.refl _ | apply Drawn0.step)⟩
      · rw [if_neg c8] at H
        have c8b0 : decide (a0 < a1) = false := decide_eq_false c8
        clear c8
        by_cases c9 : a0 > a1
        · rw [if_pos c9] at H
          have c9b0 : decide (a1 < a0) = true := decide_eq_true c9
          clear c9
          obtain rfl := Option.some.inj H
          go_enter Try.func44, Try.ntmps44
          go_wp2_with (first | ((with_reducible refine gate_callee (f := 60) rfl ?_); refine goesL_ (some 8) rfl rfl Try.func60 (by kernel_rfl) rfl #[.int .i64 a0] rfl (by (try simp only [List.map_toArray, List.map_cons, List.map_nil]); first | done | rfl | (simp only [List.length_drop, List.length_take]; rfl)) ?_; (with_reducible refine (cmp_isNaN_int.calls a0 false _ A3.out).mono ?_); rintro e w' ⟨rfl, ⟨nd, rfl⟩⟩; refine ⟨_, rfl, ?_⟩) | ((with_reducible refine gate_callee (f := 60) rfl ?_); refine goesL_ (some 10) rfl rfl Try.func60 (by kernel_rfl) rfl #[.int .i64 a1] rfl (by (try simp only [List.map_toArray, List.map_cons, List.map_nil]); first | done | rfl | (simp only [List.length_drop, List.length_take]; rfl)) ?_; (with_reducible refine (cmp_isNaN_int.calls a1 false _ A4.out).mono ?_); rintro e w' ⟨rfl, ⟨nd, rfl⟩⟩; refine ⟨_, rfl, ?_⟩))
          go_ret
          exact ⟨by first | rfl | (simp; done) | (simp [*]; done), by repeat (first | exact Drawn0.refl _ | apply Drawn0.step)⟩
        · rw [if_neg c9] at H
          have c9b0 : decide (a1 < a0) = false := decide_eq_false c9
          clear c9
          obtain rfl := Option.some.inj H
          go_enter Try.func44, Try.ntmps44
          go_wp2_with (first | ((with_reducible refine gate_callee (f := 60) rfl ?_); refine goesL_ (some 8) rfl rfl Try.func60 (by kernel_rfl) rfl #[.int .i64 a0] rfl (by (try simp only [List.map_toArray, List.map_cons, List.map_nil]); first | done | rfl | (simp only [List.length_drop, List.length_take]; rfl)) ?_; (with_reducible refine (cmp_isNaN_int.calls a0 false _ A3.out).mono ?_); rintro e w' ⟨rfl, ⟨nd, rfl⟩⟩; refine ⟨_, rfl, ?_⟩) | ((with_reducible refine gate_callee (f := 60) rfl ?_); refine goesL_ (some 10) rfl rfl Try.func60 (by kernel_rfl) rfl #[.int .i64 a1] rfl (by (try simp only [List.map_toArray, List.map_cons, List.map_nil]); first | done | rfl | (simp only [List.length_drop, List.length_take]; rfl)) ?_; (with_reducible refine (cmp_isNaN_int.calls a1 false _ A4.out).mono ?_); rintro e w' ⟨rfl, ⟨nd, rfl⟩⟩; refine ⟨_, rfl, ?_⟩))
          go_ret
          exact ⟨by first | rfl | (simp; done) | (simp [*]; done), by repeat (first | exact Drawn0.refl _ | apply Drawn0.step)⟩

/-! ### ledger_Merge: function 18 -/
section LMergeExt
open Go.Proofs.Ytfakedchahildaa.MapKit Go.Proofs.Ytfakedchahildaa.ListKit Go.Proofs.Ytfakedchahildaa.SortKit
def ltK : Pr Int Int → Pr Int Int → Bool := ltP ltI ltI
theorem orderK : Order ltK := orderP orderI orderI
def keyB (x : S42) : Pr Int Int := ⟨x.f0, x.f1⟩
def amtB (x : S42) : Int := x.f2
def toB (p : Pr Int Int × Int) : S42 := ⟨p.1.a, p.1.b, p.2⟩
/-- The sums of the amounts of each run and account, ascending. -/
def sumsB (l : List S42) : List (Pr Int Int × Int) := addsG ltK keyB amtB [] l
/-- The sums that are not 0. -/
def bookedL (m : List (Pr Int Int × Int)) : List S42 := keepG toB m
def tot (n : Int) : Bool := decide (-1000000000000 ≤ n ∧ n ≤ 1000000000000)
def okB (x : S42) : Bool := decide (0 ≤ x.f0 ∧ x.f0 ≤ 256 ∧ 100 ≤ x.f1 ∧ x.f1 ≤ 9999) && tot x.f2
def mergeB (l : List S42) : List S42 × Int := if (l.length : Int) > 131072 then ([], 3) else if l.all okB = true then (if (sumsB l).all (fun p => tot p.2) = true then (bookedL (sumsB l), 0) else ([], 4)) else ([], 2)
def ledger_Merge.f (l : List S42) : Option (List S42 × Int) := some (mergeB l)
theorem tot_eq (n : Int) : ledger_total.f n = some (tot n) := by
  unfold ledger_total.f tot
  by_cases h : n ≥ (-1000000000000)
  · rw [if_pos h]; congr 1; by_cases h2 : n ≤ 1000000000000
    · rw [decide_eq_true h2, decide_eq_true ⟨h, h2⟩]
    · rw [decide_eq_false h2, decide_eq_false (fun c => h2 c.2)]
  · rw [if_neg h]; rw [decide_eq_false (fun c => h c.1)]
def cmpI (a b : Int) : Int := if a < b then -1 else if a > b then 1 else 0
theorem cmpI_eq (a b : Int) : cmp_Compare_int.f a b = some (cmpI a b) := by
  unfold cmp_Compare_int.f cmpI cmp_isNaN_int.f
  by_cases h : a < b
  · simp [h]
  · by_cases h2 : a > b <;> simp [h, h2]
def orI (a b : Int) : Int := if a = 0 then b else a
set_option maxHeartbeats 8000000 in
set_option maxRecDepth 100000 in
theorem or_calls (a b : Int) (g : Nat) (W : World) (h0 : W.cell? ⟨g, 0, none⟩ = some (.int .i64 a)) (h1 : W.cell? ⟨g, 1, none⟩ = some (.int .i64 b)) :
    Calls Try.prog 43 #[.slice (some ⟨g, 0, none⟩) 2 2] W fun e w' => e = .returned (.int .i64 (orI a b)) ∧ Drawn0 W w' := by
  obtain ⟨r, hr⟩ : ∃ r, r = orI a b := ⟨_, rfl⟩
  rw [← hr]
  have HR := Aside0.mk hr
  clear hr
  go_enter Try.func43, Try.ntmps43
  go_wp2
  go_loopw [5, 8] (fun v i wr => ∃ x : Int, i = .int .i64 x ∧ Aside0 (x = 0 ∨ (x = 1 ∧ a = 0) ∨ (x = 2 ∧ a = 0 ∧ b = 0)) ∧ Aside0 (Drawn0 W wr)) (fun _ i _ => 2 - (intOf i).toNat)
  case atStart => exact ⟨0, rfl, ⟨.inl rfl⟩, ⟨by repeat (first | exact Drawn0.refl _ | apply Drawn0.step)⟩⟩
  case round =>
    obtain ⟨x, rfl, HX, HD⟩ := hrel
    obtain ⟨nd, rfl⟩ := HD.out
    clear HD
    have g0 : (W.drewN nd).cell? ⟨g, 0, none⟩ = some (.int .i64 a) := h0
    have g1 : (W.drewN nd).cell? ⟨g, 1, none⟩ = some (.int .i64 b) := h1
    have hx := HX.out
    clear HX
    rcases hx with rfl | ⟨rfl, ha⟩ | ⟨rfl, ha, hb⟩
    · by_cases ha : a = 0
      · have ha0 : (a != 0) = false := bne_eq_false_iff_eq.mpr ha
        have HA := Aside0.mk ha
        clear ha
        go_wp2
        go_roundw
        case rel => exact ⟨1, by first | rfl | (simp; done), ⟨.inr (.inl ⟨rfl, HA.out⟩)⟩, ⟨⟨_, rfl⟩⟩⟩
        case measure => simp [intOf]
      · have ha0 : (a != 0) = true := bne_iff_ne.mpr ha
        have HA := Aside0.mk ha
        clear ha
        go_wp2
        go_ret
        exact ⟨by rw [HR.out, orI, if_neg HA.out]; rfl, _, rfl⟩
    · subst ha
      by_cases hb : b = 0
      · have hb0 : (b != 0) = false := bne_eq_false_iff_eq.mpr hb
        have HA := Aside0.mk hb
        clear hb
        go_wp2
        go_roundw
        case rel => exact ⟨2, by first | rfl | (simp; done), ⟨by have hb_ := HA.out; simp [hb_]⟩, ⟨⟨_, rfl⟩⟩⟩
        case measure => simp [intOf]
      · have hb0 : (b != 0) = true := bne_iff_ne.mpr hb
        have HA := Aside0.mk hb
        clear hb
        go_wp2
        go_ret
        exact ⟨by rw [HR.out]; rfl, _, rfl⟩
    · subst ha
      subst hb
      go_wp2
      go_ret
      exact ⟨by rw [HR.out]; rfl, _, rfl⟩
theorem grow_two (W : World) (A B : Array Obj) (q1 q2 : Nat) : (Sort.grow ((Sort.grow W A).drewN q1) B).drewN q2 = Sort.grow (W.drewN (q1 + q2)) (A ++ B) := by
  have e : (W.drewN q1).drewN q2 = W.drewN (q1 + q2) := by first | exact World.drewN_drewN _ _ _ | simp
  rw [← e]
  exact Sort.grow_grow ((W.drewN q1).drewN q2) A B
def bookedEnc (x : S42) : List Value := [.int .i64 x.f0, .int .i64 x.f1, .int .i64 x.f2]
theorem bookedFlat : Flat k42 bookedEnc := ⟨fun _ => rfl, fun x v h => by simp [bookedEnc] at h; rcases h with rfl | rfl | rfl <;> rfl, fun w base ok x => k42_mkM w base ok x, fun w base ok x cs h => k42_openM h⟩
def bookedCmp (x y : S42) : Int := orI (cmpI x.f0 y.f0) (cmpI x.f1 y.f1)
set_option maxHeartbeats 8000000 in
set_option maxRecDepth 100000 in
theorem booked_cmp (x y : S42) (W : World) : Calls Try.prog 42 #[.agg #[.int .i64 x.f0, .int .i64 x.f1, .int .i64 x.f2], .agg #[.int .i64 y.f0, .int .i64 y.f1, .int .i64 y.f2]] W fun e w' => e = .returned (.int .i64 (bookedCmp x y)) ∧ ∃ q os', w' = Sort.grow (W.drewN q) os' := by
  have hu44 := Try.underlying42
  unfold bookedCmp
  obtain ⟨c1, hc1⟩ : ∃ c, c = cmpI x.f0 y.f0 := ⟨_, rfl⟩
  obtain ⟨c2, hc2⟩ : ∃ c, c = cmpI x.f1 y.f1 := ⟨_, rfl⟩
  have A1 := Aside0.mk (cmpI_eq x.f0 y.f0)
  have A2 := Aside0.mk (cmpI_eq x.f1 y.f1)
  rw [← hc1] at A1 ⊢
  rw [← hc2] at A2 ⊢
  clear hc1 hc2
  go_enter Try.func42, Try.ntmps42
  go_upto_region 1 with (fail)
  obtain ⟨W1, hW1⟩ : ∃ W1, W1 = ((W.alloc (.cells #[.int .i64 x.f0, .int .i64 x.f1, .int .i64 x.f2] 42)).alloc (.cells #[.int .i64 y.f0, .int .i64 y.f1, .int .i64 y.f2] 42)) := ⟨_, rfl⟩
  rw [← hW1]
  have h0 : W1.cell? ⟨W.heap.size, 0, none⟩ = some (.int .i64 x.f0) := by rw [hW1]; go_simp
  have h1 : W1.cell? ⟨W.heap.size, 1, none⟩ = some (.int .i64 x.f1) := by rw [hW1]; go_simp
  have h2 : W1.cell? ⟨W.heap.size + 1, 0, none⟩ = some (.int .i64 y.f0) := by rw [hW1]; go_simp
  have h3 : W1.cell? ⟨W.heap.size + 1, 1, none⟩ = some (.int .i64 y.f1) := by rw [hW1]; go_simp
  have HW := Aside0.mk hW1
  clear hW1
  have hS0 : ∀ n, (W1.drewN n).cell? ⟨W.heap.size, 0, none⟩ = some (.int .i64 x.f0) ∧ (W1.drewN n).cell? ⟨W.heap.size, 1, none⟩ = some (.int .i64 x.f1) ∧ (W1.drewN n).cell? ⟨W.heap.size + 1, 0, none⟩ = some (.int .i64 y.f0) ∧ (W1.drewN n).cell? ⟨W.heap.size + 1, 1, none⟩ = some (.int .i64 y.f1) := fun n => ⟨h0, h1, h2, h3⟩
  have hz : W1.heap.size = W.heap.size + 2 := by rw [HW.out]; exact (Array.size_push _).trans (congrArg (· + 1) (Array.size_push _))
  have hSA : ∀ (o : Obj) (n : Nat), ((W1.alloc o).drewN n).cell? ⟨W.heap.size, 0, none⟩ = some (.int .i64 x.f0) ∧ ((W1.alloc o).drewN n).cell? ⟨W.heap.size, 1, none⟩ = some (.int .i64 x.f1) ∧ ((W1.alloc o).drewN n).cell? ⟨W.heap.size + 1, 0, none⟩ = some (.int .i64 y.f0) ∧ ((W1.alloc o).drewN n).cell? ⟨W.heap.size + 1, 1, none⟩ = some (.int .i64 y.f1) := fun o n => ⟨(World.cell?_alloc_lt _ _ _ (by show W.heap.size < W1.heap.size; omega)).trans h0, (World.cell?_alloc_lt _ _ _ (by show W.heap.size < W1.heap.size; omega)).trans h1, (World.cell?_alloc_lt _ _ _ (by show W.heap.size + 1 < W1.heap.size; omega)).trans h2, (World.cell?_alloc_lt _ _ _ (by show W.heap.size + 1 < W1.heap.size; omega)).trans h3⟩
  clear h0 h1 h2 h3
  have HZ := Aside0.mk hz
  clear hz
  go_region_held3 (fun w' => w'.cell? ⟨W.heap.size, 0, none⟩ = some (.int .i64 x.f0) ∧ w'.cell? ⟨W.heap.size, 1, none⟩ = some (.int .i64 x.f1) ∧ w'.cell? ⟨W.heap.size + 1, 0, none⟩ = some (.int .i64 y.f0) ∧ w'.cell? ⟨W.heap.size + 1, 1, none⟩ = some (.int .i64 y.f1)) (first | exact hS0 0 | exact hS0 _ | exact hSA _ 0 | exact hSA _ _) (first
    | (go_at_call 44; with_reducible refine (cmp_Compare_int.calls x.f0 y.f0 c1 _ A1.out).mono ?_; rintro e w4 ⟨rfl, ⟨nd, rfl⟩⟩)
    | (go_at_call 44; with_reducible refine (cmp_Compare_int.calls x.f1 y.f1 c2 _ A2.out).mono ?_; rintro e w4 ⟨rfl, ⟨nd, rfl⟩⟩)
    | (go_at_call 43; refine (or_calls c1 c2 W1.heap.size _ ?g0 ?g1).mono ?_; (case g0 => exact (blk_cell (blk_new _ _) 0).trans rfl); (case g1 => exact (blk_cell (blk_new _ _) 1).trans rfl); rintro e w4 ⟨rfl, ⟨nd, rfl⟩⟩))
  all_goals go_wp2
  all_goals go_ret
  all_goals exact ⟨rfl, _, _, by rw [HW.out, Sort.alloc_eq_grow, Sort.alloc_eq_grow, Sort.alloc_eq_grow, Sort.grow_grow]; exact grow_two _ _ _ _ _⟩
theorem rdB_drop (l : List S42) (x : Int) (h0 : 0 ≤ x) (h : x < (l.length : Int)) : l.take (x + 1).toNat = l.take x.toNat ++ [rd_T42 l x] ∧ rd_T42 l x ∈ l := by
  have hlt : x.toNat < l.length := by omega
  have e : rd_T42 l x = l[x.toNat] := by simp [rd_T42, List.getD_eq_getElem?_getD, List.getElem?_eq_getElem hlt]
  rw [show (x + 1).toNat = x.toNat + 1 by omega, List.take_succ_eq_append_getElem hlt, e]
  exact ⟨rfl, List.getElem_mem hlt⟩
theorem sumsB_asc (l : List S42) : Asc ltK (sumsB l) := addsG_asc orderK l [] List.Pairwise.nil
theorem sumsB_len (l : List S42) : (sumsB l).length ≤ l.length := by have := addsG_len (lt := ltK) (f := keyB) (g := amtB) l []; simpa [sumsB] using this
theorem laidOut_ : laidOutB Try.prog = true := by kernel_rfl
theorem acctLaw : Go.WideMaps.KeyLaw Try.prog 74 := deep_law_laid laidOut_ (m := 2) (by omega) (of_decide_eq_true (by kernel_rfl)) (by kernel_rfl) (by rw [Try.underlying74])
noncomputable def acctMK : MK Try.prog 72 74 3 (Pr Int Int) Int :=
  MK.pi Try.prog 72 74 3 .i64 (f0 := { name := "run", type := 3, offset := 0, embedded := false, tag := "", pkgPath := "payroll/ledger", byteOffset := 0 }) (f1 := { name := "number", type := 3, offset := 1, embedded := false, tag := "", pkgPath := "payroll/ledger", byteOffset := 8 })
    (FK.int Try.prog 3 .i64 Try.underlying3) (FK.int Try.prog 3 .i64 Try.underlying3) (Go.Maps.Keyed.of_law acctLaw) Try.underlying74 (by kernel_rfl) (by kernel_rfl) rfl rfl (by kernel_rfl) (by kernel_rfl) (by kernel_rfl) (of_decide_eq_true (by kernel_rfl)) Try.underlying3 Try.underlying72
theorem wrapEq (x : Int) : IntKind.i64.wrap x = wrap64 x := by rw [IntKind.wrap_i64]; unfold wrap64; rfl
theorem pset_grown (w : World) (p : Addr) (u : Value) : w.grownBy (w.setCell p u) (some p.block) := ⟨rfl, rfl, rfl, by simp, fun k hk hk2 => Below.heap_setCell w p u k (fun e => hk2 (by rw [e]))⟩
theorem acctZero (w : World) : (zeroValue 3).run Try.prog w = .ok (.int .i64 0) w := by kernel_rfl
theorem wf_of {n : Int} (h : -9223372036854775808 ≤ n) (h2 : n ≤ 9223372036854775807) : (Lit.int .i64 n).wf = true := by rw [← wrapid h h2]; exact wrap64_wf _
theorem okB_iff (x : S42) : okB x = true ↔ (0 ≤ x.f0 ∧ x.f0 ≤ 256 ∧ 100 ≤ x.f1 ∧ x.f1 ≤ 9999) ∧ tot x.f2 = true := by simp [okB]
theorem bookedCmp_neg (x y : S42) : bookedCmp x y < 0 ↔ ltK (keyB x) (keyB y) = true := by
  unfold bookedCmp orI cmpI ltK ltP keyB ltI
  simp only [Bool.or_eq_true, Bool.and_eq_true, decide_eq_true_eq]
  repeat' split
  all_goals omega
theorem ltK_ntr {x y z : Pr Int Int} (h : ¬ ltK x y = true) (h2 : ¬ ltK y z = true) : ¬ ltK x z = true := by
  intro h3
  by_cases e : y = z
  · subst e; exact h h3
  · have := orderK.total y z (by simpa using h2) e
    exact h (orderK.trans _ _ _ h3 this)
set_option maxHeartbeats 8000000 in
set_option maxRecDepth 100000 in
theorem ledger_Merge.calls (A0 : Option Addr) (c0 : Nat) (l0 : List S42) (r1 : List S42) (r2 : Int) (w : World) (hr0 : Kd.C k42 w A0 l0.length l0) (hc0 : l0.length ≤ c0) (h : ledger_Merge.f l0 = some (r1, r2)) :
    Calls Try.prog 18 #[.slice A0 l0.length c0] w fun e w' => ∃ v0_ : Value, e = .returned (.tuple #[v0_, .int .i64 r2]) ∧ Kd.R k42 42 w' w.heap.size (fun _ => True) v0_ r1 ∧ Below w.heap.size w w' := by
  have hu44 := Try.underlying42
  have hu80 := Try.underlying74
  have HR0 := Aside0.mk hr0
  have HC0 := Aside0.mk hc0
  clear hr0 hc0
  have HB := Aside0.mk (Below.refl w.heap.size w)
  unfold ledger_Merge.f mergeB at h
  have h := Option.some.inj h
  by_cases c1 : (l0.length : Int) > 131072
  · rw [if_pos c1] at h
    simp only [Prod.mk.injEq] at h
    obtain ⟨rfl, rfl⟩ := h
    have c1b0 : decide ((131072 : Int) < (l0.length : Int)) = true := decide_eq_true c1
    clear c1
    go_enter Try.func18, Try.ntmps18
    go_wp2
    go_ret2
    exact ⟨_, rfl, Kd.R_nil _ _ _ _ _, HB.out⟩
  · rw [if_neg c1] at h
    have c1b0 : decide ((131072 : Int) < (l0.length : Int)) = false := decide_eq_false c1
    have HL := Aside0.mk (show l0.length ≤ 131072 by omega)
    have H' := Aside0.mk h
    clear c1 h
    go_enter Try.func18, Try.ntmps18
    go_wp2_with (first
      | ((with_reducible refine gate_dst (N := 13) rfl ?_); refine acctMK.make_op _ rfl rfl ?_; intro mb w6 hmb his hb; have HM := Aside0.mk his; have n0_ := Aside0.mk (below_step HB.out hb); have GEM := Aside0.mk ((by rw [hmb]; exact below_size HB.out) : w.heap.size ≤ mb); clear HB; have HB := n0_; clear n0_ hb hmb his))
    clear c1b0
    go_loopw [16] (fun i wr => ∃ x : Int, i = .int .i64 x ∧ Aside0 (0 ≤ x ∧ x ≤ l0.length) ∧ Aside0 ((l0.take x.toNat).all okB = true) ∧ Aside0 (acctMK.Is wr mb x.toNat (sumsB (l0.take x.toNat))) ∧ Aside0 (Below w.heap.size w wr)) (fun i _ => l0.length - (intOf i).toNat)
    case atStart => exact ⟨0, rfl, ⟨by omega, by omega⟩, ⟨by simp⟩, ⟨by simpa [sumsB, addsG] using HM.out⟩, HB⟩
    case round =>
      clear HB HM
      obtain ⟨x, rfl, HX, HN, HM, HB⟩ := hrel
      by_cases c7 : x < (l0.length : Int)
      · have c7b0 : decide (x < (l0.length : Int)) = true := decide_eq_true c7
        have p117 : 0 ≤ x := HX.out.1
        have q117 : x < (l0.length : Int) := c7
        have HY := Aside0.mk c7
        have HT := Aside0.mk (rdB_drop l0 x p117 c7)
        clear c7
        obtain ⟨ad117, e117, hx117_0, hx117_1, hx117_2⟩ := at_T42 HR0.out x p117 q117
        cases e117
        replace hx117_0 := pw_cell_below HB.out hx117_0
        replace hx117_1 := pw_cell_below HB.out hx117_1
        replace hx117_2 := pw_cell_below HB.out hx117_2
        replace p117 := eq_true p117
        replace q117 := eq_true q117
        obtain ⟨pj, hpj⟩ : ∃ pj, pj = rd_T42 l0 x := ⟨_, rfl⟩
        rw [← hpj] at HT hx117_0 hx117_1 hx117_2
        clear hpj
        have HBAD := Aside0.mk (show okB pj = false → (r1, r2) = ([], 2) from fun hb => by
          have := H'.out
          rw [if_neg (show ¬ l0.all okB = true from fun hall => by rw [List.all_eq_true.1 hall _ HT.out.2] at hb; cases hb)] at this
          exact this.symm)
        obtain ⟨bt, hbt⟩ : ∃ bt, bt = tot pj.f2 := ⟨_, rfl⟩
        have A9 := Aside0.mk (tot_eq pj.f2)
        rw [← hbt] at A9
        have HBT := Aside0.mk hbt
        clear hbt

        by_cases k0 : pj.f0 < 0
        · have k0b : decide (pj.f0 < 0) = true := decide_eq_true k0
          have H := HBAD.out (by rw [Bool.eq_false_iff]; intro hh; have := (okB_iff pj).1 hh; omega)
          simp only [Prod.mk.injEq] at H
          obtain ⟨rfl, rfl⟩ := H
          clear H' HBAD k0
          go_wp2_with (first
            | ((with_reducible refine gate_dst (N := 6) rfl ?_); refine box_event ?hg (N := 6) ?hd (cs := #[.int .i64 0, .int .i64 0, .int .i64 0]) (t := 42) ?hr ?_; (case hd => rfl); (case hg => rfl); (case hr => first | (go_simp; done) | (go_simp; rfl)); intro gb2 hg w7 hbox hb; have n0_ := Aside0.mk (below_step HB.out hb); have n1_ := Aside0.mk (HM.out.below hb); have GE2 := Aside0.mk ((by rw [hg]; exact below_size HB.out) : w.heap.size ≤ gb2); have NE2 := Aside0.mk ((by rw [hg]; exact Nat.ne_of_lt HM.out.lt) : mb ≠ gb2); have BK := Aside0.mk hbox; clear HB HM; have HB := n0_; have HM := n1_; clear n0_ n1_ hb hg; have hz0 : w7.cell? ⟨gb2, 0, none⟩ = some (.int .i64 0) := (blk_cell hbox 0).trans rfl; have hz1 : w7.cell? ⟨gb2, 1, none⟩ = some (.int .i64 0) := (blk_cell hbox 1).trans rfl; have hz2 : w7.cell? ⟨gb2, 2, none⟩ = some (.int .i64 0) := (blk_cell hbox 2).trans rfl; have hf0 := blk_frozen hbox 0; have hf1 := blk_frozen hbox 1; have hf2 := blk_frozen hbox 2; clear hbox))
          go_ret2
          exact ⟨_, rfl, Kd.R_nil _ _ _ _ _, by first | exact HB.out | exact below_set (below_set (below_set HB.out GE2.out) GE2.out) GE2.out⟩
        · have k0b : decide (pj.f0 < 0) = false := decide_eq_false k0
          by_cases k1 : 256 < pj.f0
          · have k1b : decide (256 < pj.f0) = true := decide_eq_true k1
            have H := HBAD.out (by rw [Bool.eq_false_iff]; intro hh; have := (okB_iff pj).1 hh; omega)
            simp only [Prod.mk.injEq] at H
            obtain ⟨rfl, rfl⟩ := H
            clear H' HBAD k1 k0
            go_wp2_with (first
              | ((with_reducible refine gate_dst (N := 6) rfl ?_); refine box_event ?hg (N := 6) ?hd (cs := #[.int .i64 0, .int .i64 0, .int .i64 0]) (t := 42) ?hr ?_; (case hd => rfl); (case hg => rfl); (case hr => first | (go_simp; done) | (go_simp; rfl)); intro gb2 hg w7 hbox hb; have n0_ := Aside0.mk (below_step HB.out hb); have n1_ := Aside0.mk (HM.out.below hb); have GE2 := Aside0.mk ((by rw [hg]; exact below_size HB.out) : w.heap.size ≤ gb2); have NE2 := Aside0.mk ((by rw [hg]; exact Nat.ne_of_lt HM.out.lt) : mb ≠ gb2); have BK := Aside0.mk hbox; clear HB HM; have HB := n0_; have HM := n1_; clear n0_ n1_ hb hg; have hz0 : w7.cell? ⟨gb2, 0, none⟩ = some (.int .i64 0) := (blk_cell hbox 0).trans rfl; have hz1 : w7.cell? ⟨gb2, 1, none⟩ = some (.int .i64 0) := (blk_cell hbox 1).trans rfl; have hz2 : w7.cell? ⟨gb2, 2, none⟩ = some (.int .i64 0) := (blk_cell hbox 2).trans rfl; have hf0 := blk_frozen hbox 0; have hf1 := blk_frozen hbox 1; have hf2 := blk_frozen hbox 2; clear hbox))
            go_ret2
            exact ⟨_, rfl, Kd.R_nil _ _ _ _ _, by first | exact HB.out | exact below_set (below_set (below_set HB.out GE2.out) GE2.out) GE2.out⟩
          · have k1b : decide (256 < pj.f0) = false := decide_eq_false k1
            by_cases k2 : pj.f1 < 100
            · have k2b : decide (pj.f1 < 100) = true := decide_eq_true k2
              have H := HBAD.out (by rw [Bool.eq_false_iff]; intro hh; have := (okB_iff pj).1 hh; omega)
              simp only [Prod.mk.injEq] at H
              obtain ⟨rfl, rfl⟩ := H
              clear H' HBAD k2 k0 k1
              go_wp2_with (first
                | ((with_reducible refine gate_dst (N := 6) rfl ?_); refine box_event ?hg (N := 6) ?hd (cs := #[.int .i64 0, .int .i64 0, .int .i64 0]) (t := 42) ?hr ?_; (case hd => rfl); (case hg => rfl); (case hr => first | (go_simp; done) | (go_simp; rfl)); intro gb2 hg w7 hbox hb; have n0_ := Aside0.mk (below_step HB.out hb); have n1_ := Aside0.mk (HM.out.below hb); have GE2 := Aside0.mk ((by rw [hg]; exact below_size HB.out) : w.heap.size ≤ gb2); have NE2 := Aside0.mk ((by rw [hg]; exact Nat.ne_of_lt HM.out.lt) : mb ≠ gb2); have BK := Aside0.mk hbox; clear HB HM; have HB := n0_; have HM := n1_; clear n0_ n1_ hb hg; have hz0 : w7.cell? ⟨gb2, 0, none⟩ = some (.int .i64 0) := (blk_cell hbox 0).trans rfl; have hz1 : w7.cell? ⟨gb2, 1, none⟩ = some (.int .i64 0) := (blk_cell hbox 1).trans rfl; have hz2 : w7.cell? ⟨gb2, 2, none⟩ = some (.int .i64 0) := (blk_cell hbox 2).trans rfl; have hf0 := blk_frozen hbox 0; have hf1 := blk_frozen hbox 1; have hf2 := blk_frozen hbox 2; clear hbox))
              go_ret2
              exact ⟨_, rfl, Kd.R_nil _ _ _ _ _, by first | exact HB.out | exact below_set (below_set (below_set HB.out GE2.out) GE2.out) GE2.out⟩
            · have k2b : decide (pj.f1 < 100) = false := decide_eq_false k2
              by_cases k3 : 9999 < pj.f1
              · have k3b : decide (9999 < pj.f1) = true := decide_eq_true k3
                have H := HBAD.out (by rw [Bool.eq_false_iff]; intro hh; have := (okB_iff pj).1 hh; omega)
                simp only [Prod.mk.injEq] at H
                obtain ⟨rfl, rfl⟩ := H
                clear H' HBAD k3 k0 k1 k2
                go_wp2_with (first
                  | ((with_reducible refine gate_dst (N := 6) rfl ?_); refine box_event ?hg (N := 6) ?hd (cs := #[.int .i64 0, .int .i64 0, .int .i64 0]) (t := 42) ?hr ?_; (case hd => rfl); (case hg => rfl); (case hr => first | (go_simp; done) | (go_simp; rfl)); intro gb2 hg w7 hbox hb; have n0_ := Aside0.mk (below_step HB.out hb); have n1_ := Aside0.mk (HM.out.below hb); have GE2 := Aside0.mk ((by rw [hg]; exact below_size HB.out) : w.heap.size ≤ gb2); have NE2 := Aside0.mk ((by rw [hg]; exact Nat.ne_of_lt HM.out.lt) : mb ≠ gb2); have BK := Aside0.mk hbox; clear HB HM; have HB := n0_; have HM := n1_; clear n0_ n1_ hb hg; have hz0 : w7.cell? ⟨gb2, 0, none⟩ = some (.int .i64 0) := (blk_cell hbox 0).trans rfl; have hz1 : w7.cell? ⟨gb2, 1, none⟩ = some (.int .i64 0) := (blk_cell hbox 1).trans rfl; have hz2 : w7.cell? ⟨gb2, 2, none⟩ = some (.int .i64 0) := (blk_cell hbox 2).trans rfl; have hf0 := blk_frozen hbox 0; have hf1 := blk_frozen hbox 1; have hf2 := blk_frozen hbox 2; clear hbox))
                go_ret2
                exact ⟨_, rfl, Kd.R_nil _ _ _ _ _, by first | exact HB.out | exact below_set (below_set (below_set HB.out GE2.out) GE2.out) GE2.out⟩
              · have k3b : decide (9999 < pj.f1) = false := decide_eq_false k3
                have HK := Aside0.mk (show 0 ≤ pj.f0 ∧ pj.f0 ≤ 256 ∧ 100 ≤ pj.f1 ∧ pj.f1 ≤ 9999 by omega)
                clear k0 k1 k2 k3
                cases bt with
                | false =>
                  have H := HBAD.out (by rw [Bool.eq_false_iff]; intro hh; have := (okB_iff pj).1 hh; rw [← HBT.out] at this; cases this.2)
                  simp only [Prod.mk.injEq] at H
                  obtain ⟨rfl, rfl⟩ := H
                  clear H' HBAD
                  go_wp2_with (first
                    | ((with_reducible refine gate_dst (N := 6) rfl ?_); refine box_event ?hg (N := 6) ?hd (cs := #[.int .i64 0, .int .i64 0, .int .i64 0]) (t := 42) ?hr ?_; (case hd => rfl); (case hg => rfl); (case hr => first | (go_simp; done) | (go_simp; rfl)); intro gb2 hg w7 hbox hb; have n0_ := Aside0.mk (below_step HB.out hb); have n1_ := Aside0.mk (HM.out.below hb); have GE2 := Aside0.mk ((by rw [hg]; exact below_size HB.out) : w.heap.size ≤ gb2); have NE2 := Aside0.mk ((by rw [hg]; exact Nat.ne_of_lt HM.out.lt) : mb ≠ gb2); have BK := Aside0.mk hbox; clear HB HM; have HB := n0_; have HM := n1_; clear n0_ n1_ hb hg; have hz0 : w7.cell? ⟨gb2, 0, none⟩ = some (.int .i64 0) := (blk_cell hbox 0).trans rfl; have hz1 : w7.cell? ⟨gb2, 1, none⟩ = some (.int .i64 0) := (blk_cell hbox 1).trans rfl; have hz2 : w7.cell? ⟨gb2, 2, none⟩ = some (.int .i64 0) := (blk_cell hbox 2).trans rfl; have hf0 := blk_frozen hbox 0; have hf1 := blk_frozen hbox 1; have hf2 := blk_frozen hbox 2; clear hbox)
                    | (go_at_call 40; with_reducible refine (ledger_total.calls pj.f2 false _ A9.out).mono ?_; rintro e w4 ⟨rfl, hd⟩; have hb := hd.below; have n0_ := Aside0.mk (below_step (below_set (below_set (below_set HB.out GE2.out) GE2.out) GE2.out) hb); clear HB; have HB := n0_; clear n0_ hb hd))
                  go_ret2
                  exact ⟨_, rfl, Kd.R_nil _ _ _ _ _, by first | exact HB.out | exact below_set (below_set (below_set HB.out GE2.out) GE2.out) GE2.out⟩
                | true =>
                  clear HBAD
                  go_wp2_with (first
                    | ((with_reducible refine gate_dst (N := 6) rfl ?_); refine box_event ?hg (N := 6) ?hd (cs := #[.int .i64 0, .int .i64 0, .int .i64 0]) (t := 42) ?hr ?_; (case hd => rfl); (case hg => rfl); (case hr => first | (go_simp; done) | (go_simp; rfl)); intro gb2 hg w7 hbox hb; have n0_ := Aside0.mk (below_step HB.out hb); have n1_ := Aside0.mk (HM.out.below hb); have GE2 := Aside0.mk ((by rw [hg]; exact below_size HB.out) : w.heap.size ≤ gb2); have NE2 := Aside0.mk ((by rw [hg]; exact Nat.ne_of_lt HM.out.lt) : mb ≠ gb2); have BK := Aside0.mk hbox; clear HB HM; have HB := n0_; have HM := n1_; clear n0_ n1_ hb hg; have hz0 : w7.cell? ⟨gb2, 0, none⟩ = some (.int .i64 0) := (blk_cell hbox 0).trans rfl; have hz1 : w7.cell? ⟨gb2, 1, none⟩ = some (.int .i64 0) := (blk_cell hbox 1).trans rfl; have hz2 : w7.cell? ⟨gb2, 2, none⟩ = some (.int .i64 0) := (blk_cell hbox 2).trans rfl; have hf0 := blk_frozen hbox 0; have hf1 := blk_frozen hbox 1; have hf2 := blk_frozen hbox 2; clear hbox)
                    | (go_at_call 40; with_reducible refine (ledger_total.calls pj.f2 true _ A9.out).mono ?_; rintro e w4 ⟨rfl, hd⟩; have hb := hd.below; have n0_ := Aside0.mk (below_step (below_set (below_set (below_set HB.out GE2.out) GE2.out) GE2.out) hb); have n1_ := Aside0.mk (((((HM.out.far NE2.out _).far NE2.out _).far NE2.out _)).below hb); have n2_ : Aside0 (w4.heap[gb2]? = some (.cells #[.int .i64 pj.f0, .int .i64 pj.f1, .int .i64 pj.f2] 42 (0, 0))) := Aside0.mk (blk_below (blk_put (blk_put (blk_put BK.out 0 _ rfl) 1 _ rfl) 2 _ rfl) hb); clear HB HM BK hz0 hz1 hz2 hf0 hf1 hf2; have HB := n0_; have HM := n1_; have BK := n2_; clear n0_ n1_ n2_ hb hd))
                  clear hx117_0 hx117_1 hx117_2
                  obtain ⟨v0, st, w1, hE, hL0, hL1, hwf, hg1, hS⟩ := acctMK.entry_op acctLaw (w := w4.drew) HM.out.drew (by have := HL.out; have := HX.out; unfold maxLen; omega) 0 acctZero rfl ⟨pj.f0, pj.f1⟩ ⟨by have := HK.out; show (Lit.int .i64 pj.f0).wf = true; exact wf_of (by omega) (by omega), by have := HK.out; show (Lit.int .i64 pj.f1).wf = true; exact wf_of (by omega) (by omega)⟩
                  obtain ⟨w2, hSt, his, hg2⟩ := hS (wrap64 (((sumsB (l0.take x.toNat)).lookup ⟨pj.f0, pj.f1⟩).getD 0 + pj.f2)) (wrap64_wf _) (addG ltK keyB amtB (sumsB (l0.take x.toNat)) pj) (fun y => lookup_putL ltK _ _ _ y)
                  have hc0 : w4.drew.cell? ⟨gb2, 0, none⟩ = some (.int .i64 pj.f0) := (blk_cell (blk_drew BK.out) 0).trans rfl
                  have hc1 : w4.drew.cell? ⟨gb2, 1, none⟩ = some (.int .i64 pj.f1) := (blk_cell (blk_drew BK.out) 1).trans rfl
                  have hc2 : w4.drew.cell? ⟨gb2, 2, none⟩ = some (.int .i64 pj.f2) := (blk_cell (blk_drew BK.out) 2).trans rfl
                  have BK1 := blk_grown (blk_drew BK.out) hg1 (fun e => NE2.out (Option.some.inj e).symm)
                  have BK2 := blk_grown (blk_drew BK.out) hg2 (fun e => NE2.out (Option.some.inj e).symm)
                  have hS0 : w4.drew.cell? ⟨gb2, 0, none⟩ = some (.int .i64 pj.f0) ∧ w4.drew.cell? ⟨gb2, 1, none⟩ = some (.int .i64 pj.f1) ∧ w4.drew.cell? ⟨gb2, 2, none⟩ = some (.int .i64 pj.f2) := ⟨hc0, hc1, hc2⟩
                  have hS1 : w1.cell? ⟨gb2, 0, none⟩ = some (.int .i64 pj.f0) ∧ w1.cell? ⟨gb2, 1, none⟩ = some (.int .i64 pj.f1) ∧ w1.cell? ⟨gb2, 2, none⟩ = some (.int .i64 pj.f2) := ⟨(blk_cell BK1 0).trans rfl, (blk_cell BK1 1).trans rfl, (blk_cell BK1 2).trans rfl⟩
                  have hS2 : w2.cell? ⟨gb2, 0, none⟩ = some (.int .i64 pj.f0) ∧ w2.cell? ⟨gb2, 1, none⟩ = some (.int .i64 pj.f1) ∧ w2.cell? ⟨gb2, 2, none⟩ = some (.int .i64 pj.f2) := ⟨(blk_cell BK2 0).trans rfl, (blk_cell BK2 1).trans rfl, (blk_cell BK2 2).trans rfl⟩
                  have n0_ := Aside0.mk (pw_below_grown (below_drew1 HB.out) _ (below_size (below_drew1 HB.out)) hg2 (fun k e => by cases e; exact GEM.out))
                  clear hc0 hc1 hc2 BK1 BK2 hg1 hg2 BK
                  replace hE : (Instr.mapEntry 72 (.map (some mb)) (.agg #[.int .i64 pj.f0, .int .i64 pj.f1])).run Try.prog w4.drew = .ok (.tuple #[v0, .int .i64 (st : Int)]) w1 := hE
                  replace hL0 : (Instr.lookup 72 (.map (some mb)) (.agg #[.int .i64 pj.f0, .int .i64 pj.f1]) false).run Try.prog w4.drew = .ok (.int .i64 (((sumsB (l0.take x.toNat)).lookup ⟨pj.f0, pj.f1⟩).getD 0)) w4.drew := hL0
                  replace hL1 : (Instr.lookup 72 (.map (some mb)) (.agg #[.int .i64 pj.f0, .int .i64 pj.f1]) false).run Try.prog w1 = .ok (.int .i64 (((sumsB (l0.take x.toNat)).lookup ⟨pj.f0, pj.f1⟩).getD 0)) w1 := hL1
                  replace hSt : (Instr.entryStore 72 (.map (some mb)) (.int .i64 (st : Int)) (.int .i64 (IntKind.i64.wrap (((sumsB (l0.take x.toNat)).lookup ⟨pj.f0, pj.f1⟩).getD 0 + pj.f2)))).run Try.prog w1 = .ok () w2 := by rw [wrapEq]; exact hSt
                  clear HB HM
                  have HB := n0_
                  have HM := Aside0.mk his
                  clear n0_ his
                  go_region_held (fun w' => w'.cell? ⟨gb2, 0, none⟩ = some (.int .i64 pj.f0) ∧ w'.cell? ⟨gb2, 1, none⟩ = some (.int .i64 pj.f1) ∧ w'.cell? ⟨gb2, 2, none⟩ = some (.int .i64 pj.f2)) (first | exact hS0 | exact hS1 | exact hS2) (fail)
                  all_goals clear hS0 hS1 hS2 hE hL0 hL1 hSt hS hwf
                  all_goals go_wp2
                  all_goals go_roundw
                  case rel | rel =>
                    have hx := HX.out
                    have hy := HY.out
                    have hl := HL.out
                    have e1 : (x + 1).toNat = x.toNat + 1 := by omega
                    refine ⟨x + 1, by first | rfl | (rw [show wrap64 (x + 1) = x + 1 by unfold wrap64; omega]), ⟨by omega, by omega⟩, ⟨?_⟩, ⟨?_⟩, HB⟩
                    · rw [HT.out.1, List.all_append, HN.out, List.all_cons, (okB_iff pj).2 ⟨HK.out, HBT.out.symm⟩]; rfl
                    · rw [HT.out.1, show sumsB (l0.take x.toNat ++ [pj]) = addG ltK keyB amtB (sumsB (l0.take x.toNat)) pj from addsG_snoc _ _ _, e1]
                      exact HM.out
                  case measure | measure =>
                    have hx := HX.out
                    have hy := HY.out
                    have hl := HL.out
                    have e : wrap64 (x + 1) = x + 1 := by unfold wrap64; omega
                    simp [intOf, e]; omega
      · have c7b0 : decide (x < (l0.length : Int)) = false := decide_eq_false c7
        have hxl : x.toNat = l0.length := by have := HX.out; omega
        rw [hxl, List.take_length] at HM HN
        have H3 := Aside0.mk (show (if (sumsB l0).all (fun p => tot p.2) = true then (bookedL (sumsB l0), 0) else ([], 4)) = (r1, r2) from by have := H'.out; rw [if_pos HN.out] at this; exact this)
        clear hxl c7 HX HN H'
        go_wp2_with (first
          | (at_range; refine acctMK.range_op _ rfl _ rfl mb l0.length (sumsB l0) rfl HM.out ?_; intro rb w9 hrb hr hgr; have HR := Aside0.mk hr; have GER := Aside0.mk ((by rw [hrb]; exact below_size HB.out) : w.heap.size ≤ rb); have n0_ := Aside0.mk (pw_below_grown HB.out none (below_size HB.out) hgr (by simp)); clear HB HM; have HB := n0_; clear n0_ hr hgr hrb))
        go_frame
        go_loopw [7] (fun v wr => ∃ done : List (Pr Int Int × Int), Aside0 (acctMK.Ranges wr mb rb l0.length (sumsB l0) done) ∧ Aside0 (∀ p ∈ done, tot p.2 = true) ∧ Aside0 (Kd.R k42 42 wr w.heap.size (fun _ => True) v (bookedL done)) ∧ Aside0 (Below w.heap.size w wr)) (fun _ wr => wr.rangeLeft mb rb)
        case atStart => exact ⟨[], HR, ⟨by simp⟩, ⟨Kd.R_nil _ _ _ _ _⟩, HB⟩
        case round =>
          clear HR HB
          obtain ⟨done, HR, HD, HO, HB⟩ := hrel
          have HLN := Aside0.mk (show (bookedL done).length ≤ 131072 by
            have hnd : (done.map (·.1)).Nodup := by
              obtain ⟨_, _, _, _, _, _, _, hn⟩ := HR.out
              exact hn
            have hsub : (done.map (·.1)).length ≤ ((sumsB l0).map (·.1)).length := by
              refine List.Nodup.length_le_of_subset hnd fun y hy => ?_
              obtain ⟨_, _, _, _, _, _, hd, _⟩ := HR.out
              obtain ⟨q, hq, rfl⟩ := List.mem_map.1 hy
              exact List.mem_map.2 ⟨q, mem_of_lookup (hd q.1 q.2 hq).1, rfl⟩
            have h1 : (bookedL done).length ≤ done.length := keepG_len _ _
            have h3 := HL.out
            have h4 := sumsB_len l0
            simp only [List.length_map] at hsub
            omega)
          go_wp2_with (first
            | (at_next; refine next_pii acctMK (fun _ => rfl) (fun _ => rfl) _ rfl _ rfl mb rb l0.length (sumsB l0) done rfl HR.out ?_ ?_))
          · intro hall
            have hnd : (done.map (·.1)).Nodup := by
              obtain ⟨_, _, _, _, _, _, _, hn⟩ := HR.out
              exact hn
            have hperm := perm_of_lookup hnd ((sumsB_asc l0).nodup orderK) hall
            have hany : (sumsB l0).all (fun p => tot p.2) = true := by
              rw [List.all_eq_true]
              intro p hp
              exact HD.out p (hperm.mem_iff.2 hp)
            have H := H3.out
            rw [hany, if_pos rfl] at H
            simp only [Prod.mk.injEq] at H
            obtain ⟨rfl, rfl⟩ := H
            have hpe : (bookedL done).Perm (bookedL (sumsB l0)) := (hperm.filter _).map _
            have HP := Aside0.mk hpe
            clear hall hnd hperm hany HD H3 hpe HR
            have hag : ∀ w, (isAgg (Try.sortBooked_ren.t 24)).run Try.prog w = .ok true w := fun w => by kernel_rfl
            have hsz : ∀ w, (Go.sizeOf (Try.sortBooked_ren.t 24)).run Try.prog w = .ok k42.sz w := fun w => by kernel_rfl
            have HS := Aside0.mk (fun W (hR : Kd.R k42 42 W w.heap.size (fun _ => True) u7 (bookedL done)) => sorts Try.sortBooked bookedFlat hag hsz (fun _ => True) bookedCmp 42 (enters_of Try.func42 (by kernel_rfl) rfl) (fun x y _ _ W => booked_cmp x y W) (fun x _ => by rw [bookedCmp_neg]; simpa using orderK.irrefl _) (fun x y z _ _ _ h h2 => by rw [bookedCmp_neg] at *; exact orderK.trans _ _ _ h h2) (fun x y z _ _ _ h h2 => by rw [bookedCmp_neg] at *; exact ltK_ntr h h2) (fun _ _ => trivial) W (by have := HLN.out; omega) hR)
            clear hag hsz
            go_wp2_with (first
              | ((with_reducible refine gate_callee (f := 41) rfl ?_); refine goesL_ (some 79) rfl rfl Try.func41 (by kernel_rfl) rfl #[u7, .func (.func 42) #[] #[]] rfl (by (try simp only [List.map_toArray, List.map_cons, List.map_nil]); first | done | rfl) ?_; refine (HS.out _ HO.out).mono ?_; rintro e w10 ⟨rfl, ys, hyp, hys, hR, hg⟩; refine ⟨_, rfl, ?_⟩; have HR2 := Aside0.mk hR; have HYP := Aside0.mk hyp; have HYS := Aside0.mk hys; have n0_ := Aside0.mk (pw_below_grown HB.out _ (below_size HB.out) hg (Kd.R_base HO.out)); clear HB HO; have HB := n0_; clear n0_ hR hyp hys hg))
            go_ret2
            have hys : ys = bookedL (sumsB l0) := by
              have h1 : (ys.map fun p => (keyB p, amtB p)) = ((sumsB l0).filter fun p => decide (p.2 ≠ 0)) := by
                refine perm_asc_eq orderK ?_ ?_ ?_
                · have := (HYP.out.trans HP.out).map (fun p : S42 => (keyB p, amtB p))
                  refine this.trans ?_
                  unfold bookedL keepG
                  rw [List.map_map]
                  have : ((fun p : S42 => (keyB p, amtB p)) ∘ toB) = id := rfl
                  rw [this, List.map_id]
                · have hw : (ys.map fun p => (keyB p, amtB p)).Pairwise (fun p q => ¬ ltK q.1 p.1 = true) := by
                    rw [List.pairwise_map]
                    exact HYS.out.imp fun {p q} h => by rw [← bookedCmp_neg]; exact Int.not_lt.2 (by omega)
                  exact hw
                · exact List.Pairwise.sublist List.filter_sublist (sumsB_asc l0)
              unfold bookedL keepG
              rw [← h1, List.map_map]
              have : (toB ∘ fun p : S42 => (keyB p, amtB p)) = id := rfl
              rw [this, List.map_id]
            rw [← hys]
            exact ⟨_, rfl, HR2.out, HB.out⟩
          · intro x c w1 hwx hwc hmx hdx hr hlt hg hsz hen
            have HR2 := Aside0.mk hr
            have HLT := Aside0.mk hlt
            have HMX := Aside0.mk (mem_of_lookup hmx)
            have hne := HR.out.row_ne (Kd.R_own HO.out).choose_spec
            have HO2 := Aside0.mk (bookedFlat.kept HO.out hg (fun k hk e => hne.2 (hk.trans e).symm))
            have n0_ := Aside0.mk (pw_below_grown HB.out _ (below_size HB.out) hg (fun k e => by cases e; exact GER.out))
            clear HB; have HB := n0_
            clear n0_ hmx hdx hr hlt hg hsz hwx hwc hne HR HO
            obtain ⟨b, hb⟩ : ∃ b, b = tot c := ⟨_, rfl⟩
            have A9 := Aside0.mk (tot_eq c)
            rw [← hb] at A9
            have HBB := Aside0.mk hb
            clear hb
            cases b with
            | false =>
              have hany : (sumsB l0).all (fun p => tot p.2) = false := by
                rw [Bool.eq_false_iff]
                intro hc
                have := List.all_eq_true.1 hc _ HMX.out
                rw [← HBB.out] at this
                cases this
              have H := H3.out
              rw [hany, if_neg (by simp)] at H
              simp only [Prod.mk.injEq] at H
              obtain ⟨rfl, rfl⟩ := H
              clear hany H3
              go_wp2_with (first
                | ((with_reducible refine gate_dst (N := 8) rfl ?_); refine box_event ?hg (N := 8) ?hd (cs := #[.int .i64 0, .int .i64 0]) (t := 74) ?hr ?_; (case hd => rfl); (case hg => rfl); (case hr => first | (go_simp; done) | (go_simp; rfl)); intro gb2 hg w7 hbox hb; have GE2 := Aside0.mk ((by rw [hg]; exact below_size HB.out) : w.heap.size ≤ gb2); have NE3 := Aside0.mk ((by rw [hg]; exact Nat.ne_of_lt HR2.out.lt) : rb ≠ gb2); have NE4 := Aside0.mk ((by rw [hg]; exact Nat.ne_of_lt HR2.out.is.lt) : mb ≠ gb2); have k0 := HR2.out.kept (grown_of_below hb none) (by simp) (by simp); have r0 := bookedFlat.kept HO2.out (grown_of_below hb none) (fun k hk e => by cases e); have hno := Kd.R_ne r0 hbox (by decide); have k1 := k0.1.kept (pset_grown w7 ⟨gb2, 0, none⟩ (.int .i64 x.a)) (fun e => NE4.out (Option.some.inj e)) (fun e => NE3.out (Option.some.inj e)); have k2 := k1.1.kept (pset_grown (w7.setCell ⟨gb2, 0, none⟩ (.int .i64 x.a)) ⟨gb2, 1, none⟩ (.int .i64 x.b)) (fun e => NE4.out (Option.some.inj e)) (fun e => NE3.out (Option.some.inj e)); have HRW := Aside0.mk k2.1; have HLW := Aside0.mk (Nat.lt_of_le_of_lt (Nat.le_of_eq (k2.2.trans (k1.2.trans k0.2))) HLT.out); have HOW := Aside0.mk (bookedFlat.kept (bookedFlat.kept r0 (pset_grown w7 ⟨gb2, 0, none⟩ (.int .i64 x.a)) (fun k hk e => hno (e.symm.trans hk.symm))) (pset_grown (w7.setCell ⟨gb2, 0, none⟩ (.int .i64 x.a)) ⟨gb2, 1, none⟩ (.int .i64 x.b)) (fun k hk e => hno (e.symm.trans hk.symm))); have HBW := Aside0.mk (below_set (j := 1) (v := .int .i64 x.b) (below_set (j := 0) (v := .int .i64 x.a) (below_step HB.out hb) GE2.out) GE2.out); clear HB HR2 HO2 HLT k0 k1 k2 r0 hno hb hg NE3 NE4 GE2; have hz0 : w7.cell? ⟨gb2, 0, none⟩ = some (.int .i64 0) := (blk_cell hbox 0).trans rfl; have hz1 : w7.cell? ⟨gb2, 1, none⟩ = some (.int .i64 0) := (blk_cell hbox 1).trans rfl; have hf0 := blk_frozen hbox 0; have hf1 := blk_frozen hbox 1; clear hbox)
                | ((with_reducible refine gate_callee (f := 40) rfl ?_); refine goesL_ (some 65) rfl rfl Try.func40 (by kernel_rfl) rfl #[.int .i64 c] rfl (by (try simp only [List.map_toArray, List.map_cons, List.map_nil]); first | done | rfl) ?_; (with_reducible refine (ledger_total.calls c false _ A9.out).mono ?_); rintro e w4 ⟨rfl, ⟨nd, rfl⟩⟩; refine ⟨_, rfl, ?_⟩; have n0_ := Aside0.mk (HRW.out.drewN nd); have n1_ := Aside0.mk (Kd.R_drewN HOW.out nd); have n2_ := Aside0.mk (pw_below_drewN HBW.out nd); clear HRW HOW HBW; have HRW := n0_; have HOW := n1_; have HBW := n2_; clear n0_ n1_ n2_))
              go_ret2
              exact ⟨_, rfl, Kd.R_nil _ _ _ _ _, HBW.out⟩
            | true =>
              by_cases hc : c = 0
              · have hc0 : (c != 0) = false := bne_eq_false_iff_eq.mpr hc
                have HC := Aside0.mk hc
                clear hc
                go_wp2_with (first
                  | ((with_reducible refine gate_dst (N := 8) rfl ?_); refine box_event ?hg (N := 8) ?hd (cs := #[.int .i64 0, .int .i64 0]) (t := 74) ?hr ?_; (case hd => rfl); (case hg => rfl); (case hr => first | (go_simp; done) | (go_simp; rfl)); intro gb2 hg w7 hbox hb; have GE2 := Aside0.mk ((by rw [hg]; exact below_size HB.out) : w.heap.size ≤ gb2); have NE3 := Aside0.mk ((by rw [hg]; exact Nat.ne_of_lt HR2.out.lt) : rb ≠ gb2); have NE4 := Aside0.mk ((by rw [hg]; exact Nat.ne_of_lt HR2.out.is.lt) : mb ≠ gb2); have k0 := HR2.out.kept (grown_of_below hb none) (by simp) (by simp); have r0 := bookedFlat.kept HO2.out (grown_of_below hb none) (fun k hk e => by cases e); have hno := Kd.R_ne r0 hbox (by decide); have k1 := k0.1.kept (pset_grown w7 ⟨gb2, 0, none⟩ (.int .i64 x.a)) (fun e => NE4.out (Option.some.inj e)) (fun e => NE3.out (Option.some.inj e)); have k2 := k1.1.kept (pset_grown (w7.setCell ⟨gb2, 0, none⟩ (.int .i64 x.a)) ⟨gb2, 1, none⟩ (.int .i64 x.b)) (fun e => NE4.out (Option.some.inj e)) (fun e => NE3.out (Option.some.inj e)); have HRW := Aside0.mk k2.1; have HLW := Aside0.mk (Nat.lt_of_le_of_lt (Nat.le_of_eq (k2.2.trans (k1.2.trans k0.2))) HLT.out); have HOW := Aside0.mk (bookedFlat.kept (bookedFlat.kept r0 (pset_grown w7 ⟨gb2, 0, none⟩ (.int .i64 x.a)) (fun k hk e => hno (e.symm.trans hk.symm))) (pset_grown (w7.setCell ⟨gb2, 0, none⟩ (.int .i64 x.a)) ⟨gb2, 1, none⟩ (.int .i64 x.b)) (fun k hk e => hno (e.symm.trans hk.symm))); have HBW := Aside0.mk (below_set (j := 1) (v := .int .i64 x.b) (below_set (j := 0) (v := .int .i64 x.a) (below_step HB.out hb) GE2.out) GE2.out); clear HB HR2 HO2 HLT k0 k1 k2 r0 hno hb hg NE3 NE4 GE2; have hz0 : w7.cell? ⟨gb2, 0, none⟩ = some (.int .i64 0) := (blk_cell hbox 0).trans rfl; have hz1 : w7.cell? ⟨gb2, 1, none⟩ = some (.int .i64 0) := (blk_cell hbox 1).trans rfl; have hf0 := blk_frozen hbox 0; have hf1 := blk_frozen hbox 1; clear hbox)
                  | ((with_reducible refine gate_callee (f := 40) rfl ?_); refine goesL_ (some 65) rfl rfl Try.func40 (by kernel_rfl) rfl #[.int .i64 c] rfl (by (try simp only [List.map_toArray, List.map_cons, List.map_nil]); first | done | rfl) ?_; (with_reducible refine (ledger_total.calls c true _ A9.out).mono ?_); rintro e w4 ⟨rfl, ⟨nd, rfl⟩⟩; refine ⟨_, rfl, ?_⟩; have n0_ := Aside0.mk (HRW.out.drewN nd); have n1_ := Aside0.mk (Kd.R_drewN HOW.out nd); have n2_ := Aside0.mk (pw_below_drewN HBW.out nd); clear HRW HOW HBW; have HRW := n0_; have HOW := n1_; have HBW := n2_; clear n0_ n1_ n2_))
                go_roundw
                case rel => exact ⟨done ++ [(x, c)], HRW, ⟨fun p hp => (List.mem_append.1 hp).elim (fun hp => HD.out p hp) (fun hp => by rw [List.mem_singleton] at hp; subst hp; exact HBB.out.symm)⟩, ⟨by unfold bookedL; rw [keepG_snoc, if_pos HC.out, List.append_nil]; exact HOW.out⟩, HBW⟩
                case measure => exact HLW.out
              · have hc0 : (c != 0) = true := bne_iff_ne.mpr hc
                have HC := Aside0.mk hc
                clear hc
                go_wp2_with (first
                  | ((with_reducible refine gate_dst (N := 8) rfl ?_); refine box_event ?hg (N := 8) ?hd (cs := #[.int .i64 0, .int .i64 0]) (t := 74) ?hr ?_; (case hd => rfl); (case hg => rfl); (case hr => first | (go_simp; done) | (go_simp; rfl)); intro gb2 hg w7 hbox hb; have GE2 := Aside0.mk ((by rw [hg]; exact below_size HB.out) : w.heap.size ≤ gb2); have NE3 := Aside0.mk ((by rw [hg]; exact Nat.ne_of_lt HR2.out.lt) : rb ≠ gb2); have NE4 := Aside0.mk ((by rw [hg]; exact Nat.ne_of_lt HR2.out.is.lt) : mb ≠ gb2); have k0 := HR2.out.kept (grown_of_below hb none) (by simp) (by simp); have r0 := bookedFlat.kept HO2.out (grown_of_below hb none) (fun k hk e => by cases e); have hno := Kd.R_ne r0 hbox (by decide); have k1 := k0.1.kept (pset_grown w7 ⟨gb2, 0, none⟩ (.int .i64 x.a)) (fun e => NE4.out (Option.some.inj e)) (fun e => NE3.out (Option.some.inj e)); have k2 := k1.1.kept (pset_grown (w7.setCell ⟨gb2, 0, none⟩ (.int .i64 x.a)) ⟨gb2, 1, none⟩ (.int .i64 x.b)) (fun e => NE4.out (Option.some.inj e)) (fun e => NE3.out (Option.some.inj e)); have HRW := Aside0.mk k2.1; have HLW := Aside0.mk (Nat.lt_of_le_of_lt (Nat.le_of_eq (k2.2.trans (k1.2.trans k0.2))) HLT.out); have HOW := Aside0.mk (bookedFlat.kept (bookedFlat.kept r0 (pset_grown w7 ⟨gb2, 0, none⟩ (.int .i64 x.a)) (fun k hk e => hno (e.symm.trans hk.symm))) (pset_grown (w7.setCell ⟨gb2, 0, none⟩ (.int .i64 x.a)) ⟨gb2, 1, none⟩ (.int .i64 x.b)) (fun k hk e => hno (e.symm.trans hk.symm))); have HBW := Aside0.mk (below_set (j := 1) (v := .int .i64 x.b) (below_set (j := 0) (v := .int .i64 x.a) (below_step HB.out hb) GE2.out) GE2.out); clear HB HR2 HO2 HLT k0 k1 k2 r0 hno hb hg NE3 NE4 GE2; have hz0 : w7.cell? ⟨gb2, 0, none⟩ = some (.int .i64 0) := (blk_cell hbox 0).trans rfl; have hz1 : w7.cell? ⟨gb2, 1, none⟩ = some (.int .i64 0) := (blk_cell hbox 1).trans rfl; have hf0 := blk_frozen hbox 0; have hf1 := blk_frozen hbox 1; clear hbox)
                  | ((with_reducible refine gate_callee (f := 40) rfl ?_); refine goesL_ (some 65) rfl rfl Try.func40 (by kernel_rfl) rfl #[.int .i64 c] rfl (by (try simp only [List.map_toArray, List.map_cons, List.map_nil]); first | done | rfl) ?_; (with_reducible refine (ledger_total.calls c true _ A9.out).mono ?_); rintro e w4 ⟨rfl, ⟨nd, rfl⟩⟩; refine ⟨_, rfl, ?_⟩; have n0_ := Aside0.mk (HRW.out.drewN nd); have n1_ := Aside0.mk (Kd.R_drewN HOW.out nd); have n2_ := Aside0.mk (pw_below_drewN HBW.out nd); clear HRW HOW HBW; have HRW := n0_; have HOW := n1_; have HBW := n2_; clear n0_ n1_ n2_)
                  | ((with_reducible refine gate_builtin (b := .append) (xs := #[.tmp 69, .tmp 76]) rfl ?_); at_builtin; refine Kd.R_append k42 (w0 := w) w.heap.size rfl (.tmp 69) (.tmp 76) 32 42 (.agg #[(.int .i64 0), (.int .i64 0), (.int .i64 0)]) 24 rfl Try.underlying32 info42 rfl (by decide) (by omega) u7 (bookedL done) (⟨x.a, x.b, c⟩ : S42) [.int .i64 x.a, .int .i64 x.b, .int .i64 c] (fun _ => True) (fun _ => False) rfl ?hx ?aP (fun _ hk => hk.elim) ?aF HOW.out HBW.out (below_size HBW.out) ?aL ?_; (case hx => show Value.slice (some ⟨w7.heap.size, 0, none⟩) 1 1 = _; simp [World.setCell]); (case aP => exact k42_mkM _ _ _ (⟨x.a, x.b, c⟩ : S42)); (case aF => exact (fun _ _ => trivial)); (case aL => have := HLN.out; omega); intro v1 w2 hO hB hg _; have HO3 := Aside0.mk hO; have HNE := HRW.out.row_ne (Kd.R_own HOW.out).choose_spec; have k4 := HRW.out.kept hg HNE.1 HNE.2; have HR3 := Aside0.mk k4.1; have HL3 := Aside0.mk (Nat.lt_of_le_of_lt (Nat.le_of_eq k4.2) HLW.out); have HB := Aside0.mk hB; clear hO hB hg HNE k4))
                go_roundw
                case rel => exact ⟨done ++ [(x, c)], HR3, ⟨fun p hp => (List.mem_append.1 hp).elim (fun hp => HD.out p hp) (fun hp => by rw [List.mem_singleton] at hp; subst hp; exact HBB.out.symm)⟩, ⟨by unfold bookedL; rw [keepG_snoc, if_neg HC.out]; exact HO3.out⟩, HB⟩
                case measure => exact HL3.out
end LMergeExt

/-! ### token_letter: function 62 -/
def token_letter.f (a0 : Int) : Option (Bool) := if a0 ≥ 97 then (some (decide (a0 ≤ 122))) else (some false)
set_option maxHeartbeats 8000000 in
set_option maxRecDepth 100000 in
theorem token_letter.calls (a0 : Int) (r : Bool) (w : World) (h : token_letter.f a0 = some r) :
    Calls Try.prog 62 #[.int .u8 a0] w fun e w' => e = .returned (.bool r) ∧ Drawn0 w w' := by
  have H : (if a0 ≥ 97 then (some (decide (a0 ≤ 122))) else (some false)) = some r := h
  clear h
  by_cases c2 : a0 ≥ 97
  · rw [if_pos c2] at H
    have c2b0 : decide (97 ≤ a0) = true := decide_eq_true c2
    clear c2
    obtain rfl := Option.some.inj H
    go_enter Try.func62, Try.ntmps62
    go_wp2
    go_ret
    exact ⟨by first | rfl | (simp; done) | (simp [*]; done), by repeat (first | exact Drawn0.refl _ | apply Drawn0.step)⟩
  · rw [if_neg c2] at H
    have c2b0 : decide (97 ≤ a0) = false := decide_eq_false c2
    clear c2
    obtain rfl := Option.some.inj H
    go_enter Try.func62, Try.ntmps62
    go_wp2
    go_ret
    exact ⟨by first | rfl | (simp; done) | (simp [*]; done), by repeat (first | exact Drawn0.refl _ | apply Drawn0.step)⟩

/-! ### token_digit: function 63 -/
def token_digit.f (a0 : Int) : Option (Bool) := if a0 ≥ 48 then (some (decide (a0 ≤ 57))) else (some false)
set_option maxHeartbeats 8000000 in
set_option maxRecDepth 100000 in
theorem token_digit.calls (a0 : Int) (r : Bool) (w : World) (h : token_digit.f a0 = some r) :
    Calls Try.prog 63 #[.int .u8 a0] w fun e w' => e = .returned (.bool r) ∧ Drawn0 w w' := by
  have H : (if a0 ≥ 48 then (some (decide (a0 ≤ 57))) else (some false)) = some r := h
  clear h
  by_cases c2 : a0 ≥ 48
  · rw [if_pos c2] at H
    have c2b0 : decide (48 ≤ a0) = true := decide_eq_true c2
    clear c2
    obtain rfl := Option.some.inj H
    go_enter Try.func63, Try.ntmps63
    go_wp2
    go_ret
    exact ⟨by first | rfl | (simp; done) | (simp [*]; done), by repeat (first | exact Drawn0.refl _ | apply Drawn0.step)⟩
  · rw [if_neg c2] at H
    have c2b0 : decide (48 ≤ a0) = false := decide_eq_false c2
    clear c2
    obtain rfl := Option.some.inj H
    go_enter Try.func63, Try.ntmps63
    go_wp2
    go_ret
    exact ⟨by first | rfl | (simp; done) | (simp [*]; done), by repeat (first | exact Drawn0.refl _ | apply Drawn0.step)⟩

/-! ### token_IsKeyword: function 64 -/
section IsKeywordExt
open Go.Proofs.Ytfakedchahildaa.MapKit Go.Proofs.Ytfakedchahildaa.ListKit
/-- The keywords, the last one first. -/
def keywords : List (Str × Bool) := [(⟨⟨#[104, 97, 108, 102, 95, 101, 118, 101, 110]⟩⟩, true), (⟨⟨#[104, 97, 108, 102, 95, 100, 111, 119, 110]⟩⟩, true), (⟨⟨#[104, 97, 108, 102, 95, 117, 112]⟩⟩, true), (⟨⟨#[99, 101, 105, 108, 105, 110, 103]⟩⟩, true), (⟨⟨#[102, 108, 111, 111, 114]⟩⟩, true), (⟨⟨#[117, 112]⟩⟩, true), (⟨⟨#[100, 111, 119, 110]⟩⟩, true), (⟨⟨#[98, 111, 111, 108]⟩⟩, true), (⟨⟨#[110, 117, 109, 98, 101, 114]⟩⟩, true), (⟨⟨#[100, 97, 121, 115]⟩⟩, true), (⟨⟨#[104, 111, 117, 114, 115]⟩⟩, true), (⟨⟨#[109, 111, 110, 101, 121]⟩⟩, true), (⟨⟨#[108, 97, 115, 116]⟩⟩, true), (⟨⟨#[97, 118, 101, 114, 97, 103, 101]⟩⟩, true), (⟨⟨#[114, 111, 117, 110, 100]⟩⟩, true), (⟨⟨#[109, 97, 120]⟩⟩, true), (⟨⟨#[109, 105, 110]⟩⟩, true), (⟨⟨#[102, 97, 108, 115, 101]⟩⟩, true), (⟨⟨#[116, 114, 117, 101]⟩⟩, true), (⟨⟨#[110, 111, 116]⟩⟩, true), (⟨⟨#[111, 114]⟩⟩, true), (⟨⟨#[97, 110, 100]⟩⟩, true), (⟨⟨#[101, 108, 115, 101]⟩⟩, true), (⟨⟨#[116, 104, 101, 110]⟩⟩, true), (⟨⟨#[105, 102]⟩⟩, true), (⟨⟨#[116, 111]⟩⟩, true), (⟨⟨#[114, 111, 117, 110, 100, 101, 100]⟩⟩, true), (⟨⟨#[102, 114, 111, 109]⟩⟩, true), (⟨⟨#[112, 97, 121]⟩⟩, true), (⟨⟨#[114, 117, 108, 101]⟩⟩, true), (⟨⟨#[115, 99, 97, 108, 101]⟩⟩, true), (⟨⟨#[112, 97, 115, 116]⟩⟩, true), (⟨⟨#[105, 110, 112, 117, 116]⟩⟩, true), (⟨⟨#[97, 103, 114, 101, 101, 109, 101, 110, 116]⟩⟩, true)]
def token_IsKeyword.f (a0 : ByteArray) : Option Bool := if a0.size ≤ 24 then some ((keywords.lookup ⟨a0⟩).getD false) else none
noncomputable def keyMK : MK Try.prog 109 9 4 Str Bool := MK.sb Try.prog 109 9 4 Try.underlying9 Try.underlying4 Try.underlying109
theorem keyZero (w : World) : (zeroValue 4).run Try.prog w = .ok (.bool false) w := by kernel_rfl
set_option maxHeartbeats 8000000 in
set_option maxRecDepth 100000 in
theorem token_IsKeyword.calls (a0 : ByteArray) (r : Bool) (w : World) (h : token_IsKeyword.f a0 = some r) :
    Calls Try.prog 64 #[.string a0] w fun e w' => e = .returned (.bool r) ∧ Below w.heap.size w w' := by
  have HB := Aside0.mk (Below.refl w.heap.size w)
  unfold token_IsKeyword.f at h
  by_cases hs : a0.size ≤ 24
  · rw [if_pos hs] at h
    obtain rfl := Option.some.inj h
    have HS := Aside0.mk (show a0.size ≤ maxLen by unfold maxLen; omega)
    clear h hs
    obtain ⟨kw, hkw⟩ : ∃ kw, kw = keywords := ⟨_, rfl⟩
    rw [← hkw]
    have HW := Aside0.mk hkw
    clear hkw
    go_enter Try.func64, Try.ntmps64
    go_wp2_with (first
      | ((with_reducible refine gate_dst (N := 3) rfl ?_); refine keyMK.make_op _ rfl rfl ?_; intro mb w6 hmb his hb; have HM := Aside0.mk his; have n0_ := Aside0.mk (below_step HB.out hb); have GEM := Aside0.mk ((by rw [hmb]; exact below_size HB.out) : w.heap.size ≤ mb); clear HB; have HB := n0_; clear n0_ hb hmb his)
      | (refine insert_sb _ Try.underlying9 Try.underlying4 Try.underlying109 rfl _ _ _ rfl mb _ _ rfl HM.out (by unfold maxLen; omega) _ _ rfl (by decide) rfl ?_; intro w8 his hgr; have n0_ := Aside0.mk (pw_below_grown HB.out _ (below_size HB.out) hgr (fun k e => by cases e; exact GEM.out)); clear HB HM; have HB := n0_; have HM := Aside0.mk his; clear n0_ his hgr)
      | (at_lookup; refine lookup_sb _ Try.underlying9 Try.underlying4 Try.underlying109 rfl _ _ rfl (keyZero _) mb _ _ rfl HM.out a0 rfl HS.out ?_))
    go_ret
    rw [HW.out]
    exact ⟨rfl, HB.out⟩
  · rw [if_neg hs] at h; cases h
end IsKeywordExt

end Go.Proofs.Ytfakedchahildaa.Q
