/- Sums by keys: what is kept is told by the sums alone. Plain Lean. -/
import Derived.Test.YtfakedchahildaaListKit2
namespace Go.Proofs.Ytfakedchahildaa.ListKit
open Go.RowKit Go.Proofs.Ytfakedchahildaa.MapKit Go.Proofs.YtfakedchahildaaW.PrintWords
theorem lookup_kept {κ : Type} [DecidableEq κ] : ∀ (m : List (κ × Int)), (m.map (·.1)).Nodup → ∀ k, (m.filter fun p => decide (p.2 ≠ 0)).lookup k = match m.lookup k with | some v => if v = 0 then none else some v | none => none := by
  intro m
  induction m with
  | nil => intro _ k; rfl
  | cons q r ih =>
    obtain ⟨x, w⟩ := q
    intro hn k
    simp only [List.map_cons, List.nodup_cons] at hn
    have h := ih hn.2 k
    by_cases hk : k = x
    · subst hk
      have hr : r.lookup k = none := lookup_none.2 hn.1
      rw [hr] at h
      by_cases hw : w = 0
      · subst hw
        simp only [List.lookup_cons, beq_self_eq_true]
        rw [List.filter_cons_of_neg (by simp)]
        exact h
      · simp only [List.lookup_cons, beq_self_eq_true]
        rw [List.filter_cons_of_pos (by simpa using hw)]
        simp [List.lookup_cons, hw]
    · have hb : (k == x) = false := beq_eq_false_iff_ne.2 hk
      by_cases hw : w = 0
      · subst hw
        rw [List.filter_cons_of_neg (by simp)]
        simp only [List.lookup_cons, hb]
        exact h
      · rw [List.filter_cons_of_pos (by simpa using hw)]
        simp only [List.lookup_cons, hb]
        exact h
theorem keep_ext {κ γ : Type} [DecidableEq κ] {lt : κ → κ → Bool} (O : Order lt) (mk : κ × Int → γ) {a b : List (κ × Int)} (ha : Asc lt a) (hb : Asc lt b) (h : ∀ k, (a.lookup k).getD 0 = (b.lookup k).getD 0) : keepG mk a = keepG mk b := by
  unfold keepG
  have : (a.filter fun p => decide (p.2 ≠ 0)) = (b.filter fun p => decide (p.2 ≠ 0)) := by
    refine asc_ext O (List.Pairwise.filter _ ha) (List.Pairwise.filter _ hb) fun k => ?_
    rw [lookup_kept a (ha.nodup O), lookup_kept b (hb.nodup O)]
    have hk := h k
    cases h1 : a.lookup k with
    | none =>
      rw [h1] at hk
      cases h2 : b.lookup k with
      | none => rfl
      | some v =>
        rw [h2] at hk
        have : v = 0 := hk.symm
        simp [this]
    | some u =>
      rw [h1] at hk
      cases h2 : b.lookup k with
      | none =>
        rw [h2] at hk
        have : u = 0 := hk
        simp [this]
      | some v =>
        rw [h2] at hk
        have : u = v := hk
        simp [this]
  rw [this]
section
variable {κ α : Type} [DecidableEq κ] {lt : κ → κ → Bool} {f : α → κ} {g : α → Int}
theorem addsG_getD (l : List α) (k : κ) : ((addsG lt f g [] l).lookup k).getD 0 = wrap64 (sumG f g l k) := by
  rw [addsG_nil_lookup]
  by_cases h : hasG f l k = true
  · rw [if_pos h]; rfl
  · rw [if_neg h, sumG_none l k (by simpa using h), wrapid (by omega) (by omega)]; rfl
/-- Lists with the same sums by keys keep the same. -/
theorem keep_sums {γ : Type} (O : Order lt) (mk : κ × Int → γ) {a b : List α} (h : ∀ k, sumG f g a k = sumG f g b k) : keepG mk (addsG lt f g [] a) = keepG mk (addsG lt f g [] b) := by
  refine keep_ext O mk (addsG_asc O a [] List.Pairwise.nil) (addsG_asc O b [] List.Pairwise.nil) fun k => ?_
  rw [addsG_getD, addsG_getD, h]
theorem sumG_bound {c : Int} (h0 : 0 ≤ c) (k : κ) : ∀ l : List α, (∀ x ∈ l, -c ≤ g x ∧ g x ≤ c) → -(c * l.length) ≤ sumG f g l k ∧ sumG f g l k ≤ c * l.length
  | [], _ => by simp [sumG]
  | x :: r, h => by
    have ih := sumG_bound h0 k r fun y hy => h y (List.mem_cons_of_mem _ hy)
    obtain ⟨h1, h2⟩ := h x List.mem_cons_self
    have e : c * ((x :: r).length : Int) = c * r.length + c := by rw [List.length_cons, Int.natCast_add, Int.mul_add]; simp
    rw [sumG_cons, e]
    by_cases hk : f x = k
    · rw [if_pos hk]; omega
    · rw [if_neg hk]; omega
/-- An entry of the sums. -/
theorem mem_adds (O : Order lt) {l : List α} {p : κ × Int} (hp : p ∈ addsG lt f g [] l) : (∃ x ∈ l, f x = p.1) ∧ p.2 = wrap64 (sumG f g l p.1) := by
  have h1 := lookup_of_mem ((addsG_asc O l [] List.Pairwise.nil).nodup O) (show (p.1, p.2) ∈ addsG lt f g [] l from hp)
  rw [addsG_nil_lookup] at h1
  by_cases hh : hasG f l p.1 = true
  · rw [if_pos hh] at h1
    obtain ⟨x, hx, hk⟩ := List.any_eq_true.1 hh
    exact ⟨⟨x, hx, of_decide_eq_true hk⟩, (Option.some.inj h1).symm⟩
  · rw [if_neg hh] at h1; cases h1
/-- What is kept has the sums of what it was made of. -/
theorem sum_keep (mk : κ × Int → α) (hf : ∀ p, f (mk p) = p.1) (hg : ∀ p, g (mk p) = p.2) : ∀ (m : List (κ × Int)), (m.map (·.1)).Nodup → ∀ k, sumG f g (keepG mk m) k = (m.lookup k).getD 0
  | [], _, k => rfl
  | (x, w) :: r, hn, k => by
    simp only [List.map_cons, List.nodup_cons] at hn
    have ih := sum_keep mk hf hg r hn.2 k
    have h : sumG f g (keepG mk ((x, w) :: r)) k = (if x = k then w else 0) + sumG f g (keepG mk r) k := by
      unfold keepG
      by_cases hw : w = 0
      · rw [List.filter_cons_of_neg (by simp [hw])]
        subst hw
        simp
      · rw [List.filter_cons_of_pos (by simpa using hw), List.map_cons, sumG_cons, hf, hg]
    rw [h, ih]
    by_cases hk : k = x
    · subst hk
      rw [lookup_none.2 hn.1]
      simp [List.lookup_cons]
    · have hb : (k == x) = false := beq_eq_false_iff_ne.2 hk
      have hk2 : ¬ x = k := fun e => hk e.symm
      simp [List.lookup_cons, hb, hk2]
theorem sum_kept (O : Order lt) (mk : κ × Int → α) (hf : ∀ p, f (mk p) = p.1) (hg : ∀ p, g (mk p) = p.2) {c : Int} (h0 : 0 ≤ c) (l : List α) (h : ∀ x ∈ l, -c ≤ g x ∧ g x ≤ c) (hl : c * l.length ≤ 1000000000000000) (k : κ) : sumG f g (keepG mk (addsG lt f g [] l)) k = sumG f g l k := by
  rw [sum_keep mk hf hg _ ((addsG_asc O l [] List.Pairwise.nil).nodup O), addsG_getD]
  have := sumG_bound (f := f) (g := g) h0 k l h
  exact wrapid (by omega) (by omega)
end
/-- Sums over the keys that count. -/
def wsum {κ : Type} (φ : κ → Bool) (m : List (κ × Int)) : Int := (m.map fun p => if φ p.1 = true then p.2 else 0).sum
def gsum {κ α : Type} (φ : κ → Bool) (f : α → κ) (g : α → Int) (l : List α) : Int := (l.map fun x => if φ (f x) = true then g x else 0).sum
theorem gsum_append {κ α : Type} (φ : κ → Bool) (f : α → κ) (g : α → Int) (a b : List α) : gsum φ f g (a ++ b) = gsum φ f g a + gsum φ f g b := by simp [gsum]
theorem gsum_cons {κ α : Type} (φ : κ → Bool) (f : α → κ) (g : α → Int) (x : α) (b : List α) : gsum φ f g (x :: b) = (if φ (f x) = true then g x else 0) + gsum φ f g b := by simp [gsum]
section
variable {κ α : Type} [DecidableEq κ] {lt : κ → κ → Bool} {f : α → κ} {g : α → Int}
theorem wsum_put (O : Order lt) (φ : κ → Bool) (m : List (κ × Int)) (hm : Asc lt m) (k : κ) (v : Int) : wsum φ (putL lt k v m) = wsum φ m + (if φ k = true then v - (m.lookup k).getD 0 else 0) := by
  obtain ⟨a, b, hab, ha, hc⟩ := put_split O m hm k v
  rcases hc with ⟨w, b', hb, hput, hlk⟩ | ⟨hb, hput, hlk⟩
  · rw [hput, hlk, hab, hb]
    simp only [wsum, List.map_append, List.sum_append, List.map_cons, List.sum_cons, Option.getD_some]
    split <;> omega
  · rw [hput, hlk, hab]
    simp only [wsum, List.map_append, List.sum_append, List.map_cons, List.sum_cons, Option.getD_none]
    split <;> omega
theorem wsum_adds (O : Order lt) (φ : κ → Bool) {c : Int} (h0 : 0 ≤ c) : ∀ (n : Nat) (l : List α), l.length = n → (∀ x ∈ l, -c ≤ g x ∧ g x ≤ c) → c * l.length ≤ 1000000000000000 → wsum φ (addsG lt f g [] l) = gsum φ f g l := by
  intro n
  induction n with
  | zero =>
    intro l hn _ _
    obtain rfl := List.length_eq_zero_iff.1 hn
    rfl
  | succ n ih =>
    intro l hn h hl
    rcases List.eq_nil_or_concat l with rfl | ⟨l', x, rfl⟩
    · simp at hn
    · rw [List.concat_eq_append] at hn h hl ⊢
      have hn' : l'.length = n := by simpa using hn
      have h' : ∀ y ∈ l', -c ≤ g y ∧ g y ≤ c := fun y hy => h y (List.mem_append_left _ hy)
      have hx := h x (by simp)
      have e : c * ((l' ++ [x]).length : Int) = c * l'.length + c := by rw [List.length_append, Int.natCast_add, Int.mul_add]; simp
      rw [e] at hl
      have h1 := ih l' hn' h' (by omega)
      have hb := sumG_bound (f := f) h0 (f x) l' h'
      rw [addsG_snoc, addG, wsum_put O φ _ (addsG_asc O l' [] List.Pairwise.nil), h1, addsG_getD, wrapid (x := sumG f g l' (f x)) (by omega) (by omega), wrapid (x := sumG f g l' (f x) + g x) (by omega) (by omega), gsum_append]
      simp only [gsum, List.map_cons, List.map_nil, List.sum_cons, List.sum_nil]
      split <;> omega
omit [DecidableEq κ] in
theorem gsum_keep (φ : κ → Bool) (mk : κ × Int → α) (hf : ∀ p, f (mk p) = p.1) (hg : ∀ p, g (mk p) = p.2) : ∀ (m : List (κ × Int)), gsum φ f g (keepG mk m) = wsum φ m
  | [] => rfl
  | (x, w) :: r => by
    have ih := gsum_keep φ mk hf hg r
    have e : wsum φ ((x, w) :: r) = (if φ x = true then w else 0) + wsum φ r := by simp [wsum]
    rw [e, ← ih]
    unfold keepG
    by_cases hw : w = 0
    · rw [List.filter_cons_of_neg (by simp [hw])]
      subst hw
      simp
    · rw [List.filter_cons_of_pos (by simpa using hw), List.map_cons, gsum_cons, hf, hg]
/-- What is kept has the sums of what it was made of, over whatever keys. -/
theorem coarse (O : Order lt) (φ : κ → Bool) (mk : κ × Int → α) (hf : ∀ p, f (mk p) = p.1) (hg : ∀ p, g (mk p) = p.2) {c : Int} (h0 : 0 ≤ c) (l : List α) (h : ∀ x ∈ l, -c ≤ g x ∧ g x ≤ c) (hl : c * l.length ≤ 1000000000000000) : gsum φ f g (keepG mk (addsG lt f g [] l)) = gsum φ f g l := by
  rw [gsum_keep φ mk hf hg, wsum_adds O φ h0 _ l rfl h hl]
end
end Go.Proofs.Ytfakedchahildaa.ListKit
