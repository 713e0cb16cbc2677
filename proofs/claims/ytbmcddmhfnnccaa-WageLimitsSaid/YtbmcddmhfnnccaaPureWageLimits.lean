/- The errors at the limits: too many elements, sums beyond an amount, and codes without a wage type. -/
import Derived.Test.YtbmcddmhfnnccaaDeckLib0
import Derived.Test.YtbmcddmhfnnccaaLib26o
import Derived.Test.YtbmcddmhfnnccaaQx7
import Derived.Test.YtbmcddmhfnnccaaQx15
namespace Go.Proofs.Ytbmcddmhfnnccaa.Pure
open Go.RowKit Go.Proofs.Ytbmcddmhfnnccaa.Q Go.Proofs.YtbmcddmhfnnccaaW.PrintWords Go.Proofs.YtbmcddmhfnnccaaW.PrintLast Go.Proofs.Ytbmcddmhfnnccaa.MapKit Go.Proofs.Ytbmcddmhfnnccaa.ListKit Go.Proofs.Ytbmcddmhfnnccaa.DeckLib Go.Proofs.Ytbmcddmhfnnccaa.Lib17 Go.Proofs.Ytbmcddmhfnnccaa.Lib26
def ea : El := ⟨(⟨#[97]⟩ : ByteArray), 0⟩
def wa : List Wg := [⟨(⟨#[97]⟩ : ByteArray), 1, false, false, false, 1000⟩]
def big (k : Int) : List El := [⟨(⟨#[97]⟩ : ByteArray), 1000000000⟩, ⟨(⟨#[97]⟩ : ByteArray), k⟩]
def eb : List El := [⟨(⟨#[98]⟩ : ByteArray), 0⟩]
theorem of_big : (ofS wa (big 0)).2.2.2.2.2 = 0 ∧ (ofS wa (big 1)).2.2.2.2.2 = 4 ∧ (ofS wa (big 2)).2.2.2.2.2 = 4 ∧ (ofS wa eb).2.2.2.2.2 = 16 := by decide +kernel
theorem addAll_ea : ∀ n : Nat, addAll (List.replicate (n + 1) ea) = [(⟨(⟨#[97]⟩ : ByteArray)⟩, 0)]
  | 0 => by decide +kernel
  | n + 1 => by
    have e : List.replicate (n + 1 + 1) ea = List.replicate (n + 1) ea ++ [ea] := by rw [List.replicate_succ' (n := n + 1)]
    rw [e, addAll_snoc, addAll_ea n]
    decide +kernel
theorem merge_ea (n : Nat) : (mergeE (List.replicate (n + 1) ea)).2 = if n + 1 > 128 then 3 else 0 := by
  unfold mergeE sumsS
  rw [List.length_replicate]
  by_cases h : n + 1 > 128
  · rw [if_pos (show ((n + 1 : Nat) : Int) > 128 by omega), if_pos h]; rfl
  · have h1 : (List.replicate (n + 1) ea).all (fun e => nameS e.f0) = true := List.all_eq_true.2 fun x hx => by rw [List.eq_of_mem_replicate hx]; decide +kernel
    have h2 : (List.replicate (n + 1) ea).all (fun e => amt e.f1) = true := List.all_eq_true.2 fun x hx => by rw [List.eq_of_mem_replicate hx]; decide +kernel
    rw [if_neg (show ¬ ((n + 1 : Nat) : Int) > 128 by omega), if_neg h, if_pos h1, if_pos h2, addAll_ea]
    rw [if_pos (by decide +kernel)]
theorem fill_loop (m : Int) (n : Nat) (hn : n ≤ 1000) (r : Bool) : ∀ (j i : Nat), i + j = n → Ev (fun k => payrolllaw26_WageLimits.l0 k m wa (List.replicate n ea) (n : Int)) r → Ev (fun k => payrolllaw26_WageLimits.l0 k m wa (List.replicate i ea ++ List.replicate j z44) (i : Int)) r := by
  intro j
  induction j with
  | zero =>
    intro i hi h
    have : i = n := by omega
    subst this
    simpa using h
  | succ j ih =>
    intro i hi h
    have h2 := ih (i + 1) (by omega) h
    refine Ev.step (fun k => ?_) h2
    simp only [payrolllaw26_WageLimits.l0]
    rw [if_pos (by rw [List.length_append, List.length_replicate, List.length_replicate]; omega), if_pos (by omega), wrapid (x := (i : Int) + 1) (by omega) (by omega)]
    have e : (List.replicate i ea ++ List.replicate (j + 1) z44).set i ea = List.replicate (i + 1) ea ++ List.replicate j z44 := by
      rw [List.set_append, List.length_replicate, if_neg (by omega), Nat.sub_self, List.replicate_succ (n := j), List.set_cons_zero, List.replicate_succ' (n := i), List.append_assoc]
      rfl
    rw [← e]
    rfl
theorem WageLimits : payrolllaw26_WageLimits.Pure := by
  intro n m _ _
  refine Ev.rounds (g := fun k => payrolllaw26_WageLimits.f k n m) ?_
  unfold payrolllaw26_WageLimits.f
  obtain ⟨t, ht, t0, t1⟩ := mod_ok n 3 (by omega) (by omega)
  have ht' : paygen_Mod.f n 3 = some t := ht
  rw [ht']
  simp only [Option.bind_some]
  rw [wrapid (x := 127 + t) (by omega) (by omega)]
  obtain ⟨j, rfl⟩ := Int.eq_ofNat_of_zero_le t0
  obtain ⟨N, hN⟩ : ∃ N : Nat, N = 127 + j := ⟨_, rfl⟩
  have en : (127 : Int) + (j : Int) = (N : Int) := by omega
  rw [en]
  refine Ev.congr (fun k => (if_pos (by omega)).trans (if_pos (by omega))) ?_
  rw [Int.toNat_natCast]
  have h0 := fill_loop m N (by omega) true N 0 (by omega)
  refine (show Ev (fun k => payrolllaw26_WageLimits.l0 k m wa (List.replicate N ea) (N : Int)) true → Ev (fun k => payrolllaw26_WageLimits.l0 k m wa (List.replicate N z44) 0) true from h0) ?_
  obtain ⟨q, hq, q0, q1⟩ := mod_ok m 3 (by omega) (by omega)
  have hq' : paygen_Mod.f m 3 = some q := hq
  have hM := merge_ev (List.replicate N ea)
  have e1 : (mergeE (List.replicate N ea)).2 = if N > 128 then 3 else 0 := by
    obtain ⟨d, rfl⟩ : ∃ d, N = d + 1 := ⟨N - 1, by omega⟩
    exact merge_ea d
  have fin : ∀ (w1 : Int) , w1 = (if N > 128 then 3 else 0) → Ev (fun k => (wage_Merge.f k (List.replicate N ea)).bind fun bt481 => (wage_Of.f k wa (big q)).bind fun bt489 => (if q > 0 then ((wage_Of.f k wa eb).bind fun bt499 => (if bt481.2 = w1 then (if bt489.2.2.2.2.2 = 4 then (if bt499.2.2.2.2.2 = 16 then ((payrolllaw26_awake.f k).bind fun t506 => (some t506)) else (none)) else (none)) else (none))) else ((wage_Of.f k wa eb).bind fun bt510 => (if bt481.2 = w1 then (if bt489.2.2.2.2.2 = 0 then (if bt510.2.2.2.2.2 = 16 then ((payrolllaw26_awake.f k).bind fun t517 => (some t517)) else (none)) else (none)) else (none))))) true := by
    intro w1 hw1
    refine Ev.bind hM (Ev.bind (of_ev wa (big q)) ?_)
    have hb := of_big
    by_cases c : q > 0
    · have h4 : (ofS wa (big q)).2.2.2.2.2 = 4 := by
        rcases (by omega : q = 1 ∨ q = 2) with rfl | rfl
        · exact hb.2.1
        · exact hb.2.2.1
      exact Ev.congr (fun k => if_pos c) (Ev.bind (of_ev wa eb) (Ev.congr (fun k => (if_pos (e1.trans hw1.symm)).trans ((if_pos h4).trans (if_pos hb.2.2.2))) (Ev.bind awake_ev (Ev.now _))))
    · have h4 : (ofS wa (big q)).2.2.2.2.2 = 0 := by
        obtain rfl : q = 0 := by omega
        exact hb.1
      exact Ev.congr (fun k => if_neg c) (Ev.bind (of_ev wa eb) (Ev.congr (fun k => (if_pos (e1.trans hw1.symm)).trans ((if_pos h4).trans (if_pos hb.2.2.2))) (Ev.bind awake_ev (Ev.now _))))
  by_cases c : (N : Int) > 128
  · refine Ev.step (fun k => ?_) (fin 3 (by rw [if_pos (by omega)]))
    simp only [payrolllaw26_WageLimits.l0]
    rw [if_neg (by rw [List.length_replicate]; omega)]
    simp only [List.length_replicate, if_pos c, hq', Option.bind_some]
    rfl
  · refine Ev.step (fun k => ?_) (fin 0 (by rw [if_neg (by omega)]))
    simp only [payrolllaw26_WageLimits.l0]
    rw [if_neg (by rw [List.length_replicate]; omega)]
    simp only [List.length_replicate, if_neg c, hq', Option.bind_some]
    rfl
end Go.Proofs.Ytbmcddmhfnnccaa.Pure
