-- Printed by wip/xprint.py over the translation, with contracts proved by hand among them. Lean checks it.
import Derived.Test.YtdlljjglmcpniaaQx0
import Derived.Test.YtdlljjglmcpniaaQx5
import Derived.Test.YtdlljjglmcpniaaQx6
namespace Go.Proofs.Ytdlljjglmcpniaa.Q
open Go.RowKit Go.Proofs.YtdlljjglmcpniaaW.PrintWords Go.Proofs.YtdlljjglmcpniaaW.PrintLast Go.Proofs.YtdlljjglmcpniaaW.PrintMore
attribute [local go_sem] max2_int min2_int max_two min_two max_three min_three max_four min_four   -- for this text's walks alone
set_option linter.unusedVariables false
set_option linter.unusedSimpArgs false

/-! ### delta_Schedule: function 26 -/
section ScheduleExt
open Go.Proofs.Ytdlljjglmcpniaa.MapKit Go.Proofs.Ytdlljjglmcpniaa.ListKit
def schedL (k : Nat) (keep share : Int) : Int → List Int → Option (List Int)
  | _, [] => some []
  | debt, x :: r => (holdP k debt keep share x).bind fun n => (schedL k keep share (wrap64 (debt - n)) r).bind fun y => some (n :: y)
theorem schedL.mono (keep share : Int) : ∀ (l : List Int) (debt : Int) (k : Nat), LeO (schedL k keep share debt l) (schedL (k + 1) keep share debt l)
  | [], _, _ => LeO.refl _
  | x :: r, debt, k => by
    unfold schedL
    exact LeO.bind (holdP.mono _ _ _ _ _) fun n => LeO.bind (schedL.mono keep share r _ k) fun _ => LeO.refl _
def delta_Schedule.f (k : Nat) (a0 : Int) (l1 : List Int) (a2 a3 : Int) : Option (List Int × Int) :=
  if (1024 : Int) < (l1.length : Int) then some ([], 3) else if (btw a0 1000000000000 && (btw a2 1000000000 && btw a3 1000000)) = true then (if l1.all (fun n => btw n 1000000000) = true then (schedL k a2 a3 a0 l1).bind (fun y => some (y, 0)) else some ([], 2)) else some ([], 2)
theorem delta_Schedule.mono : ∀ a0 a1 a2 a3 k, LeO (delta_Schedule.f k a0 a1 a2 a3) (delta_Schedule.f (k + 1) a0 a1 a2 a3) := by
  intro a0 a1 a2 a3 k
  unfold delta_Schedule.f
  split
  · exact LeO.refl _
  · split
    · split
      · exact LeO.bind (schedL.mono _ _ _ _ _) fun _ => LeO.refl _
      · exact LeO.refl _
    · exact LeO.refl _
theorem rdI_drop (l : List Int) (x : Int) (h0 : 0 ≤ x) (h : x < (l.length : Int)) : l.drop x.toNat = rd l x :: l.drop (x + 1).toNat := by
  have hlt : x.toNat < l.length := by omega
  rw [List.drop_eq_getElem_cons hlt, show (x + 1).toNat = x.toNat + 1 by omega]
  congr 1
  simp [rd, List.getD_eq_getElem?_getD, List.getElem?_eq_getElem hlt]
theorem rdI_all (l : List Int) (p : Int → Bool) (x : Int) (h0 : 0 ≤ x) (h : x < (l.length : Int)) : (l.take (x + 1).toNat).all p = ((l.take x.toNat).all p && p (rd l x)) ∧ rd l x ∈ l := by
  have hlt : x.toNat < l.length := by omega
  have e : rd l x = l[x.toNat] := by simp [rd, List.getD_eq_getElem?_getD, List.getElem?_eq_getElem hlt]
  rw [show (x + 1).toNat = x.toNat + 1 by omega, List.take_succ_eq_append_getElem hlt, List.all_append, e]
  exact ⟨by simp, List.getElem_mem hlt⟩
set_option maxHeartbeats 8000000 in
set_option maxRecDepth 100000 in
theorem delta_Schedule.calls (k : Nat) (a0 : Int) (A1 : Option Addr) (c1 : Nat) (l1 : List Int) (a2 : Int) (a3 : Int) (r1 : List Int) (r2 : Int) (w : World) (hr1 : Kd.C (Kd.int .i64) w A1 l1.length l1) (hc1 : l1.length ≤ c1) (h : delta_Schedule.f k a0 l1 a2 a3 = some (r1, r2)) :
    Calls Try.prog 26 #[.int .i64 a0, .slice A1 l1.length c1, .int .i64 a2, .int .i64 a3] w fun e w' => ∃ v0_ : Value, e = .returned (.tuple #[v0_, .int .i64 r2]) ∧ Kd.R (Kd.int .i64) 3 w' w.heap.size (fun _ => True) v0_ r1 ∧ Below w.heap.size w w' := by
  have HR1 := Aside0.mk hr1
  have HC1 := Aside0.mk hc1
  clear hr1 hc1
  have HB := Aside0.mk (Below.refl w.heap.size w)
  unfold delta_Schedule.f at h
  by_cases c1 : (1024 : Int) < (l1.length : Int)
  · rw [if_pos c1] at h
    simp only [Option.some.injEq, Prod.mk.injEq] at h
    obtain ⟨rfl, rfl⟩ := h
    have c1b0 : decide ((1024 : Int) < (l1.length : Int)) = true := decide_eq_true c1
    clear c1
    go_enter Try.func26, Try.ntmps26
    go_wp2
    go_ret2
    exact ⟨_, by first | rfl | (simp [*] <;> rfl), Kd.R_nil _ _ _ _ _, HB.out⟩
  · rw [if_neg c1] at h
    have c1b0 : decide ((1024 : Int) < (l1.length : Int)) = false := decide_eq_false c1
    have HL := Aside0.mk (show l1.length ≤ 1024 by omega)
    clear c1
    obtain ⟨b0, h0⟩ : ∃ b, b = btw a0 1000000000000 := ⟨_, rfl⟩
    obtain ⟨b2, h2⟩ : ∃ b, b = btw a2 1000000000 := ⟨_, rfl⟩
    obtain ⟨b3, h3⟩ : ∃ b, b = btw a3 1000000 := ⟨_, rfl⟩
    have A0 := Aside0.mk (btw_eq a0 1000000000000)
    have A2 := Aside0.mk (btw_eq a2 1000000000)
    have A3 := Aside0.mk (btw_eq a3 1000000)
    rw [← h0, ← h2, ← h3] at h
    rw [← h0] at A0; rw [← h2] at A2; rw [← h3] at A3
    clear h0 h2 h3
    cases b0 with
    | false =>
      simp only [Bool.not_true, Bool.not_false, Bool.true_and, Bool.false_and, Bool.and_false, Bool.false_eq_true, if_false, Option.some.injEq, Prod.mk.injEq] at h
      obtain ⟨rfl, rfl⟩ := h
      go_enter Try.func26, Try.ntmps26
      go_wp2_with (first | (go_at_call 37; (with_reducible refine (delta_between.calls a0 1000000000000 false _ A0.out).mono ?_); rintro e w' ⟨rfl, ⟨nd, rfl⟩⟩) | (go_at_call 37; (with_reducible refine (delta_between.calls a2 1000000000 b2 _ A2.out).mono ?_); rintro e w' ⟨rfl, ⟨nd, rfl⟩⟩) | (go_at_call 37; (with_reducible refine (delta_between.calls a3 1000000 b3 _ A3.out).mono ?_); rintro e w' ⟨rfl, ⟨nd, rfl⟩⟩))
      go_ret2
      exact ⟨_, by first | rfl | (simp [*] <;> rfl), Kd.R_nil _ _ _ _ _, (by repeat (first | exact HB.out | apply pw_below_drewN))⟩
    | true =>
      cases b2 with
      | false =>
        simp only [Bool.not_true, Bool.not_false, Bool.true_and, Bool.false_and, Bool.and_false, Bool.false_eq_true, if_false, Option.some.injEq, Prod.mk.injEq] at h
        obtain ⟨rfl, rfl⟩ := h
        go_enter Try.func26, Try.ntmps26
        go_wp2_with (first | (go_at_call 37; (with_reducible refine (delta_between.calls a0 1000000000000 true _ A0.out).mono ?_); rintro e w' ⟨rfl, ⟨nd, rfl⟩⟩) | (go_at_call 37; (with_reducible refine (delta_between.calls a2 1000000000 false _ A2.out).mono ?_); rintro e w' ⟨rfl, ⟨nd, rfl⟩⟩) | (go_at_call 37; (with_reducible refine (delta_between.calls a3 1000000 b3 _ A3.out).mono ?_); rintro e w' ⟨rfl, ⟨nd, rfl⟩⟩))
        go_ret2
        exact ⟨_, by first | rfl | (simp [*] <;> rfl), Kd.R_nil _ _ _ _ _, (by repeat (first | exact HB.out | apply pw_below_drewN))⟩
      | true =>
        cases b3 with
        | false =>
          simp only [Bool.not_true, Bool.not_false, Bool.true_and, Bool.false_and, Bool.and_false, Bool.false_eq_true, if_false, Option.some.injEq, Prod.mk.injEq] at h
          obtain ⟨rfl, rfl⟩ := h
          go_enter Try.func26, Try.ntmps26
          go_wp2_with (first | (go_at_call 37; (with_reducible refine (delta_between.calls a0 1000000000000 true _ A0.out).mono ?_); rintro e w' ⟨rfl, ⟨nd, rfl⟩⟩) | (go_at_call 37; (with_reducible refine (delta_between.calls a2 1000000000 true _ A2.out).mono ?_); rintro e w' ⟨rfl, ⟨nd, rfl⟩⟩) | (go_at_call 37; (with_reducible refine (delta_between.calls a3 1000000 false _ A3.out).mono ?_); rintro e w' ⟨rfl, ⟨nd, rfl⟩⟩))
          go_ret2
          exact ⟨_, by first | rfl | (simp [*] <;> rfl), Kd.R_nil _ _ _ _ _, (by repeat (first | exact HB.out | apply pw_below_drewN))⟩
        | true =>
          have H' := Aside0.mk (show (if l1.all (fun n => btw n 1000000000) = true then (schedL k a2 a3 a0 l1).bind (fun y => some (y, 0)) else some ([], 2)) = some (r1, r2) from h)
          clear h
          go_enter Try.func26, Try.ntmps26
          go_wp2_with (first | (go_at_call 37; (with_reducible refine (delta_between.calls a0 1000000000000 true _ A0.out).mono ?_); rintro e w' ⟨rfl, ⟨nd, rfl⟩⟩) | (go_at_call 37; (with_reducible refine (delta_between.calls a2 1000000000 true _ A2.out).mono ?_); rintro e w' ⟨rfl, ⟨nd, rfl⟩⟩) | (go_at_call 37; (with_reducible refine (delta_between.calls a3 1000000 true _ A3.out).mono ?_); rintro e w' ⟨rfl, ⟨nd, rfl⟩⟩))
          clear c1b0
          try go_frame
          go_loopw [36] (fun i wr => ∃ x : Int, i = .int .i64 x ∧ Aside0 (0 ≤ x ∧ x ≤ l1.length) ∧ Aside0 ((l1.take x.toNat).all (fun n => btw n 1000000000) = true) ∧ Aside0 (Below w.heap.size w wr)) (fun i _ => l1.length - (intOf i).toNat)
          case atStart => exact ⟨0, rfl, ⟨by omega, by omega⟩, ⟨by simp⟩, ⟨(by repeat (first | exact HB.out | apply pw_below_drewN))⟩⟩
          case round =>
            clear HB
            obtain ⟨x, rfl, HX, HA, HB⟩ := hrel
            by_cases c7 : x < (l1.length : Int)
            · have c7b0 : decide (x < (l1.length : Int)) = true := decide_eq_true c7
              have p117 : 0 ≤ x := HX.out.1
              have q117 : x < (l1.length : Int) := c7
              have HY := Aside0.mk c7
              have HTA := Aside0.mk (rdI_all l1 (fun n => btw n 1000000000) x p117 c7)
              clear c7
              obtain ⟨ad117, e117, hx117_0⟩ := Kd.at_int HR1.out x p117 q117
              cases e117
              replace hx117_0 := pw_cell_below HB.out hx117_0
              replace p117 := eq_true p117
              replace q117 := eq_true q117
              obtain ⟨pj, hpj⟩ : ∃ pj, pj = rd l1 x := ⟨_, rfl⟩
              rw [← hpj] at HTA hx117_0
              clear hpj
              obtain ⟨b, hb⟩ : ∃ b, b = btw pj 1000000000 := ⟨_, rfl⟩
              have A9 := Aside0.mk (btw_eq pj 1000000000)
              rw [← hb] at A9
              have HBB := Aside0.mk hb
              clear hb
              cases b with
              | true =>
                go_wp2_with (first | ((with_reducible refine gate_callee (f := 37) rfl ?_); refine goesL_ (some 41) rfl rfl Try.func37 (by kernel_rfl) rfl #[.int .i64 pj, .int .i64 1000000000] rfl (by (try simp only [List.map_toArray, List.map_cons, List.map_nil]); first | done | rfl) ?_; (with_reducible refine (delta_between.calls pj 1000000000 true _ A9.out).mono ?_); rintro e w4 ⟨rfl, ⟨nd, rfl⟩⟩; refine ⟨_, rfl, ?_⟩; have n0_ := Aside0.mk (pw_below_drewN HB.out nd); clear HB; have HB := n0_; clear n0_))
                go_roundw
                case rel =>
                  have hx := HX.out
                  have hy := HY.out
                  have hl := HL.out
                  refine ⟨x + 1, by first | rfl | (rw [show wrap64 (x + 1) = x + 1 by unfold wrap64; omega]), ⟨by omega, by omega⟩, ⟨?_⟩, HB⟩
                  rw [HTA.out.1, HA.out, ← HBB.out]; rfl
                case measure =>
                  have hx := HX.out
                  have hy := HY.out
                  have hl := HL.out
                  have e : wrap64 (x + 1) = x + 1 := by unfold wrap64; omega
                  simp [intOf, e]; omega
              | false =>
                have hall : l1.all (fun n => btw n 1000000000) = false := by
                  rw [Bool.eq_false_iff]
                  intro hc
                  have := List.all_eq_true.1 hc pj HTA.out.2
                  rw [← HBB.out] at this
                  cases this
                have H := H'.out
                rw [hall, if_neg (by simp)] at H
                simp only [Option.some.injEq, Prod.mk.injEq] at H
                obtain ⟨rfl, rfl⟩ := H
                clear H' hall
                go_wp2_with (first | ((with_reducible refine gate_callee (f := 37) rfl ?_); refine goesL_ (some 41) rfl rfl Try.func37 (by kernel_rfl) rfl #[.int .i64 pj, .int .i64 1000000000] rfl (by (try simp only [List.map_toArray, List.map_cons, List.map_nil]); first | done | rfl) ?_; (with_reducible refine (delta_between.calls pj 1000000000 false _ A9.out).mono ?_); rintro e w4 ⟨rfl, ⟨nd, rfl⟩⟩; refine ⟨_, rfl, ?_⟩; have n0_ := Aside0.mk (pw_below_drewN HB.out nd); clear HB; have HB := n0_; clear n0_))
                go_ret2
                exact ⟨_, by first | rfl | (simp [*] <;> rfl), Kd.R_nil _ _ _ _ _, HB.out⟩
            · have c7b0 : decide (x < (l1.length : Int)) = false := decide_eq_false c7
              have hxl : x.toNat = l1.length := by have := HX.out; omega
              rw [hxl, List.take_length] at HA
              have H := H'.out
              rw [HA.out, if_pos rfl] at H
              obtain ⟨y, hy, H⟩ := Option.bind_eq_some_iff.1 H
              simp only [Option.some.injEq, Prod.mk.injEq] at H
              obtain ⟨rfl, rfl⟩ := H
              have HS := Aside0.mk hy
              clear hy hxl c7 HX HA H'
              go_wp2_with (first
                | ((with_reducible refine gate_callee (f := 38) rfl ?_); refine goesL_ (some 47) rfl rfl Try.func38 (by kernel_rfl) rfl #[.int .i64 a0, .int .i64 a2, .int .i64 a3] rfl (by (try simp only [List.map_toArray, List.map_cons, List.map_nil]); first | done | rfl) ?_; (with_reducible refine (recovering_calls a0 a2 a3 _).mono ?_); rintro e w4 ⟨gs, gd, gk, rfl, hbs, hbd, hbk, hsd, hkd, hge, hb⟩; refine ⟨_, rfl, ?_⟩; have BS := Aside0.mk hbs; have BD := Aside0.mk hbd; have BKp := Aside0.mk hbk; have NSD := Aside0.mk hsd; have NKD := Aside0.mk hkd; have n0_ := Aside0.mk (below_step (W := _) (by repeat (first | exact HB.out | apply pw_below_drewN)) hb); have GED := Aside0.mk (Nat.le_trans (below_size (show Below w.heap.size w _ from (by repeat (first | exact HB.out | apply pw_below_drewN)))) hge); clear HB; have HB := n0_; clear n0_ hb hbs hbd hbk hsd hkd hge))
              clear c7b0
              try go_frame
              go_loopw [13, 50] (fun v i wr => ∃ (x : Int) (out rest : List Int) (d : Int), i = .int .i64 x ∧ Aside0 (0 ≤ x ∧ x ≤ l1.length) ∧ Aside0 (schedL k a2 a3 d (l1.drop x.toNat) = some rest) ∧ Aside0 (y = out ++ rest) ∧ Aside0 ((out.length : Int) = x) ∧ Aside0 (wr.heap[gs]? = some (.cells #[.int .i64 a3] 3 (0, 0))) ∧ Aside0 (wr.heap[gd]? = some (.cells #[.int .i64 d] 3 (0, 0))) ∧ Aside0 (wr.heap[gk]? = some (.cells #[.int .i64 a2] 3 (0, 0))) ∧ Aside0 (Kd.R (Kd.int .i64) 3 wr w.heap.size (fun _ => True) v out) ∧ Aside0 (some gd ≠ v.ownBlock ∧ some gs ≠ v.ownBlock ∧ some gk ≠ v.ownBlock) ∧ Aside0 (Below w.heap.size w wr)) (fun _ i _ => l1.length - (intOf i).toNat)
              case atStart => exact ⟨0, [], y, a0, rfl, ⟨by omega, by omega⟩, HS, ⟨by simp⟩, ⟨by simp⟩, BS, BD, BKp, ⟨Kd.R_nil _ _ _ _ _⟩, ⟨by simp [Value.ownBlock]⟩, HB⟩
              case round =>
                clear HB BS BD BKp HS
                obtain ⟨x, out, rest, d, rfl, HX, HS, HYE, HOL, BS, BD, BKp, HO, HNO, HB⟩ := hrel
                by_cases c8 : x < (l1.length : Int)
                · have c8b0 : decide (x < (l1.length : Int)) = true := decide_eq_true c8
                  have p117 : 0 ≤ x := HX.out.1
                  have q117 : x < (l1.length : Int) := c8
                  have HY := Aside0.mk c8
                  have hs := HS.out
                  rw [rdI_drop l1 x p117 c8] at hs
                  unfold schedL at hs
                  obtain ⟨n, hn, hs⟩ := Option.bind_eq_some_iff.1 hs
                  obtain ⟨rest2, hs2, hr⟩ := Option.bind_eq_some_iff.1 hs
                  obtain rfl := Option.some.inj hr
                  have A8 := Aside0.mk hn
                  have HS2 := Aside0.mk hs2
                  clear hn hs hs2 hr c8 HS
                  obtain ⟨ad117, e117, hx117_0⟩ := Kd.at_int HR1.out x p117 q117
                  cases e117
                  replace hx117_0 := pw_cell_below HB.out hx117_0
                  replace p117 := eq_true p117
                  replace q117 := eq_true q117
                  obtain ⟨pj, hpj⟩ : ∃ pj, pj = rd l1 x := ⟨_, rfl⟩
                  rw [← hpj] at A8 hx117_0
                  clear hpj
                  go_wp2_with (first
                    | (go_at_call 53; (with_reducible refine (reduce_calls k d a2 a3 pj n gs gd gk _ BS.out BD.out BKp.out NSD.out NKD.out A8.out).mono ?_); rintro e w5 ⟨rfl, hbs, hbd, hbk, q, hq⟩; have n1_ := Aside0.mk hbs; have n2_ := Aside0.mk hbd; have n3_ := Aside0.mk hbk; have n0_ := Aside0.mk (show Below w.heap.size w w5 by rw [hq]; exact below_set (pw_below_drewN HB.out q) GED.out); clear HB BS BD BKp; have HB := n0_; have BS := n1_; have BD := n2_; have BKp := n3_; clear n0_ n1_ n2_ n3_ hbs hbd hbk; have n0_ := Aside0.mk (show Kd.R (Kd.int .i64) 3 w5 w.heap.size (fun _ => True) u13 out by rw [hq]; exact Kd.R_grown2 (Kd.R_drewN HO.out q) rfl (pset_grown' _ ⟨gd, 0, none⟩ _) (fun k e => by cases e; exact HNO.out.1)); clear HO; have HO := n0_; clear n0_ hq)
                    | ((with_reducible refine gate_builtin (b := .append) (xs := #[.tmp 63, .tmp 65]) rfl ?_); at_builtin; refine Kd.R_append (Kd.int .i64) (w0 := w) w.heap.size rfl (.tmp 63) (.tmp 65) 22 3 (.int .i64 0) 8 rfl Try.underlying22 info3 rfl (by decide) (by omega) u13 out n [.int .i64 n] (fun _ => True) (fun _ => False) rfl rfl ?aP (fun _ hk => hk.elim) ?aF HO.out HB.out (below_size HB.out) ?aL ?_; (case aP => exact rfl); (case aF => exact (fun _ _ => trivial)); (case aL => have := HOL.out; have := HX.out; have := HL.out; omega); intro v1 w6 hO hB hg hat; have n0_ := Aside0.mk hO; have n1_ := Aside0.mk hB; have n2_ := Aside0.mk (blk_grown BS.out hg HNO.out.2.1); have n3_ := Aside0.mk (blk_grown BD.out hg HNO.out.1); have n4_ := Aside0.mk (blk_grown BKp.out hg HNO.out.2.2); have n5_ := Aside0.mk (show some gd ≠ v1.ownBlock ∧ some gs ≠ v1.ownBlock ∧ some gk ≠ v1.ownBlock from by rcases hat with e | ⟨b, e, hge⟩; (rw [e]; exact HNO.out); (rw [e]; exact ⟨fun e => absurd (Option.some.inj e) (Nat.ne_of_lt (Nat.lt_of_lt_of_le (blk_lt BD.out) hge)), fun e => absurd (Option.some.inj e) (Nat.ne_of_lt (Nat.lt_of_lt_of_le (blk_lt BS.out) hge)), fun e => absurd (Option.some.inj e) (Nat.ne_of_lt (Nat.lt_of_lt_of_le (blk_lt BKp.out) hge))⟩)); clear HO HB BS BD BKp HNO; have HO := n0_; have HB := n1_; have BS := n2_; have BD := n3_; have BKp := n4_; have HNO := n5_; clear n0_ n1_ n2_ n3_ n4_ n5_ hO hB hg hat))
                  go_roundw
                  case rel =>
                    have hx := HX.out
                    have hy := HY.out
                    have hl := HL.out
                    refine ⟨x + 1, out ++ [n], rest2, wrap64 (d - n), by first | rfl | (rw [show wrap64 (x + 1) = x + 1 by unfold wrap64; omega]), ⟨by omega, by omega⟩, HS2, ⟨by rw [HYE.out]; simp⟩, ⟨by rw [List.length_append, List.length_singleton]; have := HOL.out; omega⟩, BS, BD, BKp, HO, HNO, HB⟩
                  case measure =>
                    have hx := HX.out
                    have hy := HY.out
                    have hl := HL.out
                    have e : wrap64 (x + 1) = x + 1 := by unfold wrap64; omega
                    simp [intOf, e]; omega
                · have c8b0 : decide (x < (l1.length : Int)) = false := decide_eq_false c8
                  have hxl : x.toNat = l1.length := by have := HX.out; omega
                  have hs := HS.out
                  rw [hxl, List.drop_length] at hs
                  obtain rfl := Option.some.inj hs
                  obtain rfl : y = out := by rw [HYE.out]; simp
                  clear hs hxl c8 HS HYE
                  go_wp2
                  go_ret2
                  exact ⟨_, by first | rfl | (simp [*] <;> rfl), HO.out, HB.out⟩
end ScheduleExt

end Go.Proofs.Ytdlljjglmcpniaa.Q
