/- Lines of payslips: small amounts never overflow; lists of lines with the same sums by keys merge into the same lines. Plain Lean. -/
import Derived.Test.YtdlljjglmcpniaaLib34
namespace Go.Proofs.Ytdlljjglmcpniaa.Lib34
open Go.RowKit Go.Proofs.Ytdlljjglmcpniaa.Q Go.Proofs.YtdlljjglmcpniaaW.PrintWords Go.Proofs.YtdlljjglmcpniaaW.PrintLast Go.Proofs.Ytdlljjglmcpniaa.MapKit Go.Proofs.Ytdlljjglmcpniaa.ListKit Go.Proofs.Ytdlljjglmcpniaa.Lib17
theorem lookup_kept {κ : Type} [DecidableEq κ] : ∀ (m : List (κ × Int)), (m.map (·.1)).Nodup → ∀ k, (m.filter fun p => decide (p.2 ≠ 0)).lookup k = match m.lookup k with | some v => if v = 0 then none else some v | none => none := by
  intro m
  induction m with
  | nil => intro _ k; rfl
  | cons q r ih =>
    obtain ⟨x, w⟩ := q
    intro hn k
    simp only [List.map_cons, List.nodup_cons] at hn
    have h := ih hn.2 k
    by_cases hk : k = x
    · subst hk
      have hr : r.lookup k = none := lookup_none.2 hn.1
      rw [hr] at h
      by_cases hw : w = 0
      · subst hw
        simp only [List.lookup_cons, beq_self_eq_true]
        rw [List.filter_cons_of_neg (by simp)]
        exact h
      · simp only [List.lookup_cons, beq_self_eq_true]
        rw [List.filter_cons_of_pos (by simpa using hw)]
        simp [List.lookup_cons, hw]
    · have hb : (k == x) = false := beq_eq_false_iff_ne.2 hk
      by_cases hw : w = 0
      · subst hw
        rw [List.filter_cons_of_neg (by simp)]
        simp only [List.lookup_cons, hb]
        exact h
      · rw [List.filter_cons_of_pos (by simpa using hw)]
        simp only [List.lookup_cons, hb]
        exact h
theorem keep_ext {κ γ : Type} [DecidableEq κ] {lt : κ → κ → Bool} (O : Order lt) (mk : κ × Int → γ) {a b : List (κ × Int)} (ha : Asc lt a) (hb : Asc lt b) (h : ∀ k, (a.lookup k).getD 0 = (b.lookup k).getD 0) : keepG mk a = keepG mk b := by
  unfold keepG
  have : (a.filter fun p => decide (p.2 ≠ 0)) = (b.filter fun p => decide (p.2 ≠ 0)) := by
    refine asc_ext O (List.Pairwise.filter _ ha) (List.Pairwise.filter _ hb) fun k => ?_
    rw [lookup_kept a (ha.nodup O), lookup_kept b (hb.nodup O)]
    have hk := h k
    cases h1 : a.lookup k with
    | none =>
      rw [h1] at hk
      cases h2 : b.lookup k with
      | none => rfl
      | some v =>
        rw [h2] at hk
        have : v = 0 := hk.symm
        simp [this]
    | some u =>
      rw [h1] at hk
      cases h2 : b.lookup k with
      | none =>
        rw [h2] at hk
        have : u = 0 := hk
        simp [this]
      | some v =>
        rw [h2] at hk
        have : u = v := hk
        simp [this]
  rw [this]
theorem sums_getD (l : List Ln) (k : Pr Int Str) : ((sumsL l).lookup k).getD 0 = wrap64 (sumG keyL amtL l k) := by
  unfold sumsL
  rw [addsG_nil_lookup]
  by_cases h : hasG keyL l k = true
  · rw [if_pos h]; rfl
  · rw [if_neg h, sumG_none l k (by simpa using h), wrapid (by omega) (by omega)]; rfl
/-- Lists of lines with the same sums by keys. -/
theorem lines_ext {a b : List Ln} (h : ∀ k, sumG keyL amtL a k = sumG keyL amtL b k) : linesL (sumsL a) = linesL (sumsL b) := by
  refine keep_ext orderK toL (sumsL_asc a) (sumsL_asc b) fun k => ?_
  rw [sums_getD, sums_getD, h]
def SmallL (c : Int) (l : List Ln) : Prop := ∀ x ∈ l, formL x = true ∧ -c ≤ x.f2 ∧ x.f2 ≤ c
theorem sumG_small {c : Int} (h0 : 0 ≤ c) (k : Pr Int Str) : ∀ l : List Ln, SmallL c l → -(c * l.length) ≤ sumG keyL amtL l k ∧ sumG keyL amtL l k ≤ c * l.length
  | [], _ => by simp [sumG]
  | x :: r, h => by
    have ih := sumG_small h0 k r fun y hy => h y (List.mem_cons_of_mem _ hy)
    obtain ⟨_, h1, h2⟩ := h x List.mem_cons_self
    have e : c * ((x :: r).length : Int) = c * r.length + c := by rw [List.length_cons, Int.natCast_add, Int.mul_add]; simp
    rw [sumG_cons, e]
    have : amtL x = x.f2 := rfl
    by_cases hk : keyL x = k
    · rw [if_pos hk]; omega
    · rw [if_neg hk]; omega
theorem sums_small {c : Int} (h0 : 0 ≤ c) (l : List Ln) (h : SmallL c l) (hl : c * l.length ≤ 1000000000000) : (sumsL l).all (fun p => tot p.2) = true := by
  rw [List.all_eq_true]
  rintro ⟨k, v⟩ hp
  have h1 := lookup_of_mem ((sumsL_asc l).nodup orderK) hp
  unfold sumsL at h1
  rw [addsG_nil_lookup] at h1
  have h2 := sumG_small h0 k l h
  by_cases hh : hasG keyL l k = true
  · rw [if_pos hh] at h1
    have hv := Option.some.inj h1
    rw [wrapid (by omega) (by omega)] at hv
    exact decide_eq_true (by simp only []; omega)
  · rw [if_neg hh] at h1; cases h1
theorem merge_small {c : Int} (h0 : 0 ≤ c) (l : List Ln) (h : SmallL c l) (hl : c * l.length ≤ 1000000000000) (hn : l.length ≤ 65536) : mergeSpec l = (linesL (sumsL l), 0) := by
  have : sumsSpec l = (sumsL l, 0) := by
    unfold sumsSpec
    rw [if_neg (by omega), if_pos (List.all_eq_true.2 fun x hx => (h x hx).1), if_pos (sums_small h0 l h hl)]
  unfold mergeSpec
  rw [this, if_pos rfl]
theorem linesL_len (l : List Ln) : (linesL (sumsL l)).length ≤ l.length := Nat.le_trans (keepG_len _ _) (sumsL_len l)
end Go.Proofs.Ytdlljjglmcpniaa.Lib34
