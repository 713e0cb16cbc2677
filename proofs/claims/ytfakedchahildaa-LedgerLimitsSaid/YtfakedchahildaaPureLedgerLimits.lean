/- How many entries can be merged: at the limit, and one beyond it. -/
import Derived.Test.YtfakedchahildaaLib44
import Derived.Test.YtfakedchahildaaQx9
namespace Go.Proofs.Ytfakedchahildaa.Pure
open Go.RowKit Go.Proofs.Ytfakedchahildaa.Q Go.Proofs.YtfakedchahildaaW.PrintWords Go.Proofs.YtfakedchahildaaW.PrintLast Go.Proofs.Ytfakedchahildaa.DeckLib Go.Proofs.Ytfakedchahildaa.ListKit Go.Proofs.Ytfakedchahildaa.MapKit Go.Proofs.Ytfakedchahildaa.Lib44
def ent (run : Int) (i : Nat) : Bk := ⟨run, 100 + ((i % 2 : Nat) : Int), 1 - 2 * ((i % 2 : Nat) : Int)⟩
def ents (run : Int) (n : Nat) : List Bk := (List.range n).map (ent run)
theorem ents_len (run : Int) (n : Nat) : (ents run n).length = n := by simp [ents]
theorem ents_succ (run : Int) (n : Nat) : ents run (n + 1) = ents run n ++ [ent run n] := by simp [ents, List.range_succ]
theorem ents_ok {run : Int} (h0 : 0 ≤ run) (h1 : run ≤ 256) (n : Nat) : (ents run n).all okB = true := by
  rw [List.all_eq_true]
  intro x hx
  obtain ⟨i, _, rfl⟩ := List.mem_map.1 hx
  refine (okB_iff _).2 ⟨⟨h0, h1, ?_, ?_⟩, decide_eq_true ?_⟩
  · show (100 : Int) ≤ 100 + _; omega
  · show 100 + _ ≤ (9999 : Int); omega
  · show -1000000000000 ≤ 1 - 2 * ((i % 2 : Nat) : Int) ∧ 1 - 2 * ((i % 2 : Nat) : Int) ≤ 1000000000000
    omega
theorem sums_step (run a b : Int) (n : Nat) (ha : -1000000 ≤ a ∧ a ≤ 1000000) (hb : -1000000 ≤ b ∧ b ≤ 1000000) : addG ltK keyB amtB [(⟨run, 100⟩, a), (⟨run, 101⟩, b)] (ent run n) = if n % 2 = 0 then [(⟨run, 100⟩, a + 1), (⟨run, 101⟩, b)] else [(⟨run, 100⟩, a), (⟨run, 101⟩, b - 1)] := by
  have l1 : ltK (⟨run, 101⟩ : Pr Int Int) ⟨run, 100⟩ = false := by simp [ltK, ltP, ltI]
  have l2 : ltK (⟨run, 101⟩ : Pr Int Int) ⟨run, 101⟩ = false := orderK.irrefl _
  have l3 : ltK (⟨run, 100⟩ : Pr Int Int) ⟨run, 100⟩ = false := orderK.irrefl _
  have n1 : ¬ ((⟨run, 101⟩ : Pr Int Int) = ⟨run, 100⟩) := fun e => by injection e with _ e; omega
  have b1 : ((⟨run, 101⟩ : Pr Int Int) == ⟨run, 100⟩) = false := beq_eq_false_iff_ne.2 n1
  by_cases c : n % 2 = 0
  · rw [if_pos c]
    have e : ent run n = ⟨run, 100, 1⟩ := by unfold ent; rw [c]; rfl
    rw [e]
    simp only [addG, keyB, amtB, putL, List.lookup_cons, beq_self_eq_true, Option.getD_some, l3, Bool.false_eq_true, if_false, if_true]
    rw [wrapid (by omega) (by omega)]
  · rw [if_neg c]
    have c1 : n % 2 = 1 := by omega
    have e : ent run n = ⟨run, 101, -1⟩ := by unfold ent; rw [c1]; rfl
    rw [e]
    simp only [addG, keyB, amtB, putL, List.lookup_cons, beq_self_eq_true, b1, Option.getD_some, l1, l2, Bool.false_eq_true, if_false, if_true, if_neg n1]
    rw [wrapid (by omega) (by omega)]
    rfl
theorem sums_two (run : Int) : sumsB (ents run 2) = [(⟨run, 100⟩, 1), (⟨run, 101⟩, -1)] := by
  have l1 : ltK (⟨run, 101⟩ : Pr Int Int) ⟨run, 100⟩ = false := by simp [ltK, ltP, ltI]
  have n1 : ¬ ((⟨run, 101⟩ : Pr Int Int) = ⟨run, 100⟩) := fun e => by injection e with _ e; omega
  have b1 : ((⟨run, 101⟩ : Pr Int Int) == ⟨run, 100⟩) = false := beq_eq_false_iff_ne.2 n1
  have e : ents run 2 = [⟨run, 100, 1⟩, ⟨run, 101, -1⟩] := rfl
  rw [e]
  unfold sumsB addsG
  simp only [List.foldl_cons, List.foldl_nil, addG, keyB, amtB, List.lookup_nil, Option.getD_none, Int.zero_add, putL]
  rw [wrapid (x := 1) (by omega) (by omega)]
  simp only [List.lookup_cons, b1, List.lookup_nil, Option.getD_none, Int.zero_add, l1, Bool.false_eq_true, if_false, if_neg n1]
  rw [wrapid (x := -1) (by omega) (by omega)]
theorem sums_ents (run : Int) : ∀ (d p q : Nat), d ≤ 900000 → p = (d + 3) / 2 → q = (d + 2) / 2 → sumsB (ents run (d + 2)) = [(⟨run, 100⟩, (p : Int)), (⟨run, 101⟩, -(q : Int))]
  | 0, p, q, _, hp, hq => by
    obtain rfl : p = 1 := by omega
    obtain rfl : q = 1 := by omega
    exact sums_two run
  | d + 1, p, q, hd, hp, hq => by
    have ih := sums_ents run d _ _ (by omega) rfl rfl
    have hs : sumsB (ents run (d + 1 + 2)) = addG ltK keyB amtB (sumsB (ents run (d + 2))) (ent run (d + 2)) := by
      rw [show d + 1 + 2 = (d + 2) + 1 by omega, ents_succ]; exact addsG_snoc _ _ _
    obtain ⟨a, ha⟩ : ∃ a : Nat, a = (d + 3) / 2 := ⟨_, rfl⟩
    obtain ⟨b, hb⟩ : ∃ b : Nat, b = (d + 2) / 2 := ⟨_, rfl⟩
    rw [← ha, ← hb] at ih
    rw [hs, ih, sums_step run _ _ (d + 2) (by omega) (by omega)]
    by_cases c : (d + 2) % 2 = 0
    · rw [if_pos c]
      obtain rfl : p = a + 1 := by omega
      obtain rfl : q = b := by omega
      rfl
    · rw [if_neg c]
      obtain rfl : p = a := by omega
      obtain rfl : q = b + 1 := by omega
      rw [show -((b + 1 : Nat) : Int) = -(b : Int) - 1 by omega]
theorem merge_ents {run : Int} (h0 : 0 ≤ run) (h1 : run ≤ 256) (d : Nat) (hd : d + 2 ≤ 131072) : mergeB (ents run (d + 2)) = ([⟨run, 100, (((d + 3) / 2 : Nat) : Int)⟩, ⟨run, 101, -(((d + 2) / 2 : Nat) : Int)⟩], 0) := by
  have t1 : tot (((d + 3) / 2 : Nat) : Int) = true := decide_eq_true (by omega)
  have t2 : tot (-(((d + 2) / 2 : Nat) : Int)) = true := decide_eq_true (by omega)
  unfold mergeB
  rw [if_neg (by rw [ents_len]; omega), if_pos (ents_ok h0 h1 _), sums_ents run d _ _ (by omega) rfl rfl]
  simp only [List.all_cons, List.all_nil, t1, t2, Bool.and_self, if_true]
  unfold bookedL keepG
  have d1 : decide ((((d + 3) / 2 : Nat) : Int) ≠ 0) = true := decide_eq_true (by omega)
  have d2 : decide (-(((d + 2) / 2 : Nat) : Int) ≠ 0) = true := decide_eq_true (by omega)
  simp only [List.filter_cons, List.filter_nil, d1, d2, if_true, List.map_cons, List.map_nil]
  rfl
theorem noRun_ents (run : Int) (n : Nat) : (ents run n).map noRun = ents 0 n := by simp [ents, noRun, ent]
theorem bal_two (a b : Int) (ha : 0 ≤ a) (ha2 : a ≤ 1000000) (hb : 0 ≤ b) (hb2 : b ≤ 1000000) : (runsB [⟨1, 100, a⟩, ⟨1, 101, -b⟩]).all (fun p => decide (p.2 = 0)) = decide (a = b) := by
  have e : runsB [⟨1, 100, a⟩, ⟨1, 101, -b⟩] = [(1, a - b)] := by
    unfold runsB addsG
    have l1 : ltI 1 1 = false := orderI.irrefl _
    simp only [List.foldl_cons, List.foldl_nil, addG, runB, amtB, List.lookup_nil, Option.getD_none, Int.zero_add, putL, List.lookup_cons, beq_self_eq_true, Option.getD_some, l1, Bool.false_eq_true, if_false, if_true]
    rw [wrapid (x := a) (by omega) (by omega), wrapid (by omega) (by omega)]
    rfl
  rw [e]
  simp only [List.all_cons, List.all_nil, Bool.and_true]
  exact decide_eq_decide.2 (by omega)
theorem fill_loop (n : Nat) (hn : n ≤ 200000) (r : Bool) : ∀ (j i : Nat), i + j = n → Ev (fun k => payrolllaw44_LedgerLimits.l0 k (n : Int) (ents 1 n) (n : Int)) r → Ev (fun k => payrolllaw44_LedgerLimits.l0 k (n : Int) (ents 1 i ++ List.replicate j z42) (i : Int)) r := by
  intro j
  induction j with
  | zero =>
    intro i hi h
    have : i = n := by omega
    subst this
    simpa using h
  | succ j ih =>
    intro i hi h
    have h2 := ih (i + 1) (by omega) h
    refine Ev.step (fun k => ?_) h2
    simp only [payrolllaw44_LedgerLimits.l0]
    have ht : Int.tmod (i : Int) 2 = ((i % 2 : Nat) : Int) := by rw [Int.natCast_emod, Int.tmod_eq_emod_of_nonneg (by omega)]; rfl
    rw [if_pos (by omega), if_pos (by omega), if_pos (by rw [List.length_append, ents_len, List.length_replicate]; omega), wrapid (x := (i : Int) + 1) (by omega) (by omega), ht, wrapid (x := 2 * ((i % 2 : Nat) : Int)) (by omega) (by omega), wrapid (x := 100 + ((i % 2 : Nat) : Int)) (by omega) (by omega), wrapid (x := 1 - 2 * ((i % 2 : Nat) : Int)) (by omega) (by omega)]
    have e : (ents 1 i ++ List.replicate (j + 1) z42).set i (ent 1 i) = ents 1 (i + 1) ++ List.replicate j z42 := by
      rw [List.set_append, ents_len, if_neg (by omega), Nat.sub_self, List.replicate_succ, List.set_cons_zero, ents_succ, List.append_assoc]
      rfl
    rw [← e]
    rfl
theorem LedgerLimits : payrolllaw44_LedgerLimits.Pure := by
  intro m _
  refine Ev.rounds (g := fun k => payrolllaw44_LedgerLimits.f k m) ?_
  unfold payrolllaw44_LedgerLimits.f
  obtain ⟨t, ht, t0, t1⟩ := mod_ok m 3 (by omega) (by omega)
  have ht' : paygen_Mod.f m 3 = some t := ht
  rw [ht']
  simp only [Option.bind_some]
  rw [wrapid (x := 131071 + t) (by omega) (by omega)]
  obtain ⟨j, rfl⟩ := Int.eq_ofNat_of_zero_le t0
  obtain ⟨n, hn⟩ : ∃ n : Nat, n = 131071 + j := ⟨_, rfl⟩
  have en : (131071 : Int) + (j : Int) = (n : Int) := by omega
  rw [en]
  refine Ev.congr (fun k => (if_pos (by omega)).trans (if_pos (by omega))) ?_
  rw [Int.toNat_natCast]
  have h0 := fill_loop n (by omega) true n 0 (by omega)
  refine (show Ev (fun k => payrolllaw44_LedgerLimits.l0 k (n : Int) (ents 1 n) (n : Int)) true → Ev (fun k => payrolllaw44_LedgerLimits.l0 k (n : Int) (List.replicate n z42) 0) true from h0) ?_
  have hT := trial_ev (ents 1 n) (by rw [ents_len]; omega)
  unfold trialB at hT
  rw [noRun_ents] at hT
  by_cases c : (n : Int) > 131072
  · have hM : ∀ run : Int, mergeB (ents run n) = ([], 3) := fun run => by unfold mergeB; rw [if_pos (by rw [ents_len]; omega)]
    have hB : balB (ents 1 n) = false := by unfold balB; rw [hM]; rfl
    rw [hM] at hT
    refine Ev.step (f := fun k => (ledger_Trial.f k (ents 1 n)).bind fun bt352 => (if bt352.2 = 3 then (if (bt352.1.length : Int) = 0 then ((payrolllaw44_awake.f k).bind fun t357 => (some t357)) else (none)) else none)) (fun k => ?_) ?_
    · simp only [payrolllaw44_LedgerLimits.l0]
      rw [if_neg (by omega)]
      unfold ledger_Merge.f ledger_Balanced.f
      rw [hM, hB]
      simp only [Option.bind_some, if_pos c, if_true, List.length_nil]
      rfl
    · refine Ev.bind hT ?_
      exact Ev.congr (fun k => (if_pos rfl).trans (if_pos rfl)) (Ev.bind awake_ev (Ev.now _))
  · obtain ⟨d, hd⟩ : ∃ d : Nat, n = d + 2 := ⟨n - 2, by omega⟩
    have hM1 := merge_ents (run := 1) (by omega) (by omega) d (by omega)
    have hM0 := merge_ents (run := 0) (by omega) (by omega) d (by omega)
    rw [← hd] at hM1 hM0
    rw [hM0] at hT
    have q1 : wrap64 (Int.tdiv (wrap64 ((n : Int) + 1)) 2) = (((d + 3) / 2 : Nat) : Int) := by
      rw [wrapid (x := (n : Int) + 1) (by omega) (by omega), Int.tdiv_eq_ediv_of_nonneg (by omega), hd]
      have : (((d + 2 : Nat) : Int) + 1) / 2 = (((d + 3) / 2 : Nat) : Int) := by omega
      rw [this, wrapid (by omega) (by omega)]
    have q2 : wrap64 (-(wrap64 (Int.tdiv (n : Int) 2))) = -(((d + 2) / 2 : Nat) : Int) := by
      have : ((d + 2 : Nat) : Int) / 2 = (((d + 2) / 2 : Nat) : Int) := by omega
      rw [Int.tdiv_eq_ediv_of_nonneg (by omega), hd, this, wrapid (x := (((d + 2) / 2 : Nat) : Int)) (by omega) (by omega), wrapid (by omega) (by omega)]
    have hB : balB (ents 1 n) = (Int.tmod (n : Int) 2 == 0) := by
      unfold balB
      rw [hM1]
      simp only [if_true]
      rw [bal_two _ _ (by omega) (by omega) (by omega) (by omega)]
      have ht : Int.tmod (n : Int) 2 = ((n % 2 : Nat) : Int) := by rw [Int.natCast_emod, Int.tmod_eq_emod_of_nonneg (by omega)]; rfl
      rw [ht, show (((n % 2 : Nat) : Int) == 0) = decide (((n % 2 : Nat) : Int) = 0) from (Bool.beq_eq_decide_eq _ _)]
      exact decide_eq_decide.2 (by omega)
    refine Ev.step (f := fun k => (ledger_Trial.f k (ents 1 n)).bind fun bt352 => (if bt352.2 = 0 then (if (bt352.1.length : Int) = 2 then ((payrolllaw44_awake.f k).bind fun t357 => (some t357)) else (none)) else none)) (fun k => ?_) ?_
    · simp only [payrolllaw44_LedgerLimits.l0]
      rw [if_neg (by omega)]
      unfold ledger_Merge.f ledger_Balanced.f
      rw [hM1, hB, q1, q2]
      simp only [Option.bind_some, if_neg c, if_true, List.length_cons, List.length_nil, beq_self_eq_true]
      congr 1
      funext bt
      by_cases h1 : bt.2 = 0
      · rw [if_pos h1, if_pos h1, if_pos (by simp), if_pos (by simp), if_pos (by simp [rd_T42]), if_pos (by simp), if_pos (by simp [rd_T42]; omega)]
      · rw [if_neg h1, if_neg h1]
    · refine Ev.bind hT ?_
      exact Ev.congr (fun k => (if_pos rfl).trans (if_pos rfl)) (Ev.bind awake_ev (Ev.now _))
end Go.Proofs.Ytfakedchahildaa.Pure
