/- The general ledger: small amounts never overflow; entries with the same sums merge into the same. Plain Lean. -/
import Derived.Test.YtfakedchahildaaLib44
namespace Go.Proofs.Ytfakedchahildaa.Lib44
open Go.RowKit Go.Proofs.Ytfakedchahildaa.Q Go.Proofs.YtfakedchahildaaW.PrintWords Go.Proofs.YtfakedchahildaaW.PrintLast Go.Proofs.Ytfakedchahildaa.MapKit Go.Proofs.Ytfakedchahildaa.ListKit Go.Proofs.Ytfakedchahildaa.DeckLib
def SmallB (c : Int) (l : List Bk) : Prop := ∀ x ∈ l, okB x = true ∧ -c ≤ x.f2 ∧ x.f2 ≤ c
theorem SmallB.amt {c : Int} {l : List Bk} (h : SmallB c l) : ∀ x ∈ l, -c ≤ amtB x ∧ amtB x ≤ c := fun x hx => (h x hx).2
theorem SmallB.append {c : Int} {a b : List Bk} (ha : SmallB c a) (hb : SmallB c b) : SmallB c (a ++ b) := fun x hx => by
  rcases List.mem_append.1 hx with h | h
  · exact ha x h
  · exact hb x h
theorem SmallB.mono {c d : Int} {a : List Bk} (ha : SmallB c a) (h : c ≤ d) : SmallB d a := fun x hx => by
  obtain ⟨h1, h2, h3⟩ := ha x hx
  exact ⟨h1, by omega, by omega⟩
theorem SmallB.noRun {c : Int} {a : List Bk} (ha : SmallB c a) : SmallB c (a.map noRun) := fun x hx => by
  obtain ⟨y, hy, rfl⟩ := List.mem_map.1 hx
  obtain ⟨h1, h2, h3⟩ := ha y hy
  refine ⟨(okB_iff _).2 ?_, h2, h3⟩
  have := (okB_iff y).1 h1
  exact ⟨⟨by show (0 : Int) ≤ 0; omega, by show (0 : Int) ≤ 256; omega, this.1.2.2.1, this.1.2.2.2⟩, this.2⟩
theorem merge_small {c : Int} (h0 : 0 ≤ c) (l : List Bk) (h : SmallB c l) (hl : c * l.length ≤ 1000000000000) (hn : l.length ≤ 131072) : mergeB l = (bookedL (sumsB l), 0) := by
  have hs : (sumsB l).all (fun p => tot p.2) = true := by
    rw [List.all_eq_true]
    intro p hp
    obtain ⟨_, e⟩ := mem_adds orderK hp
    have hb := sumG_bound (f := keyB) h0 p.1 l h.amt
    rw [wrapid (by omega) (by omega)] at e
    exact decide_eq_true (by omega)
  unfold mergeB
  rw [if_neg (by omega), if_pos (List.all_eq_true.2 fun x hx => (h x hx).1), if_pos hs]
theorem merged_small {c : Int} (h0 : 0 ≤ c) (l : List Bk) (h : SmallB c l) (hl : c * l.length ≤ 1000000000000) : SmallB (c * l.length) (bookedL (sumsB l)) := by
  intro y hy
  obtain ⟨p, hp, rfl⟩ := List.mem_map.1 hy
  have hm := (List.mem_filter.1 hp).1
  obtain ⟨⟨x, hx, hk⟩, e⟩ := mem_adds orderK hm
  have hb := sumG_bound (f := keyB) h0 p.1 l h.amt
  rw [wrapid (by omega) (by omega)] at e
  have hx2 := (okB_iff x).1 (h x hx).1
  have e1 : (toB p).f0 = x.f0 := by rw [show (toB p).f0 = p.1.a from rfl, ← hk]; rfl
  have e2 : (toB p).f1 = x.f1 := by rw [show (toB p).f1 = p.1.b from rfl, ← hk]; rfl
  have e3 : (toB p).f2 = p.2 := rfl
  refine ⟨(okB_iff _).2 ⟨by rw [e1, e2]; exact hx2.1, ?_⟩, by rw [e3]; omega, by rw [e3]; omega⟩
  rw [e3]; exact decide_eq_true (by omega)
theorem bookedL_len (l : List Bk) : (bookedL (sumsB l)).length ≤ l.length := Nat.le_trans (keepG_len _ _) (sumsB_len l)
theorem sum_merged {c : Int} (h0 : 0 ≤ c) (l : List Bk) (h : SmallB c l) (hl : c * l.length ≤ 1000000000000) (k : Pr Int Int) : sumG keyB amtB (bookedL (sumsB l)) k = sumG keyB amtB l k :=
  sum_kept orderK toB (fun _ => rfl) (fun _ => rfl) h0 l h.amt (by omega) k
/-- The sum of an account. -/
def acctSum (a : Int) (l : List Bk) : Int := gsum (fun q : Pr Int Int => decide (q.b = a)) keyB amtB l
theorem acct_merged {c : Int} (h0 : 0 ≤ c) (l : List Bk) (h : SmallB c l) (hl : c * l.length ≤ 1000000000000) (a : Int) : acctSum a (bookedL (sumsB l)) = acctSum a l :=
  coarse orderK _ toB (fun _ => rfl) (fun _ => rfl) h0 l h.amt (by omega)
/-- The sum of a run. -/
def runSum (r : Int) (l : List Bk) : Int := gsum (fun q : Pr Int Int => decide (q.a = r)) keyB amtB l
theorem sumG_noRun (k : Pr Int Int) : ∀ l : List Bk, sumG keyB amtB (l.map noRun) k = if k.a = 0 then acctSum k.b l else 0
  | [] => by simp [sumG, acctSum, gsum]
  | x :: r => by
    have ih := sumG_noRun k r
    rw [List.map_cons, sumG_cons, ih]
    have e : acctSum k.b (x :: r) = (if x.f1 = k.b then x.f2 else 0) + acctSum k.b r := by
      unfold acctSum
      rw [gsum_cons]
      congr 1
      show (if decide (x.f1 = k.b) = true then x.f2 else 0) = (if x.f1 = k.b then x.f2 else 0)
      by_cases h : x.f1 = k.b
      · rw [if_pos h, if_pos (by exact decide_eq_true h)]
      · rw [if_neg h, if_neg (fun e => h (of_decide_eq_true e))]
    by_cases h0 : k.a = 0
    · rw [if_pos h0, if_pos h0, e]
      congr 1
      by_cases h : x.f1 = k.b
      · rw [if_pos (Pr.inj h0.symm h), if_pos h]; rfl
      · rw [if_neg (fun e => h (by rw [← e]; rfl)), if_neg h]
    · rw [if_neg h0, if_neg h0, if_neg (fun e => h0 (by rw [← e]; rfl))]
      rfl
/-- Entries whose accounts have the same sums have the same trial balance. -/
theorem trial_small {c : Int} (h0 : 0 ≤ c) (l : List Bk) (h : SmallB c l) (hl : c * l.length ≤ 1000000000000) (hn : l.length ≤ 131072) : trialB l = (bookedL (sumsB (l.map noRun)), 0) :=
  merge_small h0 _ h.noRun (by rw [List.length_map]; exact hl) (by rw [List.length_map]; exact hn)
theorem trial_ext {a b : List Bk} (h : ∀ k, acctSum k a = acctSum k b) : bookedL (sumsB (a.map noRun)) = bookedL (sumsB (b.map noRun)) := by
  refine keep_sums orderK toB fun k => ?_
  rw [sumG_noRun, sumG_noRun, h]
end Go.Proofs.Ytfakedchahildaa.Lib44
