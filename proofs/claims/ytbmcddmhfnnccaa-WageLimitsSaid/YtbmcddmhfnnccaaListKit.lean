/- Lists of entries in ascending order of the keys: plain Lean, no program in sight. -/
import Derived.Test.YtbmcddmhfnnccaaMapKit
namespace Go.Proofs.Ytbmcddmhfnnccaa.ListKit
open Go.Proofs.Ytbmcddmhfnnccaa.MapKit
variable {κ β : Type}
/-- An entry laid into a list of entries in ascending order of the keys, or in place of the one that has its key. -/
def putL [DecidableEq κ] (lt : κ → κ → Bool) (x : κ) (v : β) : List (κ × β) → List (κ × β)
  | [] => [(x, v)]
  | (y, b) :: r => if lt x y = true then (x, v) :: (y, b) :: r else if x = y then (x, v) :: r else (y, b) :: putL lt x v r
theorem lookup_putL [DecidableEq κ] (lt : κ → κ → Bool) (x : κ) (v : β) : ∀ (m : List (κ × β)) (y : κ), (putL lt x v m).lookup y = if y = x then some v else m.lookup y := by
  intro m
  induction m with
  | nil =>
    intro y
    by_cases h : y = x
    · subst h; simp [putL, List.lookup]
    · have : (y == x) = false := beq_eq_false_iff_ne.2 h
      simp [putL, List.lookup, h, this]
  | cons p r ih =>
    obtain ⟨a, b⟩ := p
    intro y
    unfold putL
    by_cases hl : lt x a = true
    · rw [if_pos hl]
      by_cases h : y = x
      · subst h; simp [List.lookup]
      · have : (y == x) = false := beq_eq_false_iff_ne.2 h
        simp [List.lookup, h, this]
    · rw [if_neg hl]
      by_cases hx : x = a
      · rw [if_pos hx]
        subst hx
        by_cases h : y = x
        · subst h; simp [List.lookup]
        · have : (y == x) = false := beq_eq_false_iff_ne.2 h
          simp [List.lookup, h, this]
      · rw [if_neg hx]
        by_cases hy : y = a
        · subst hy
          simp [List.lookup, Ne.symm hx]
        · have : (y == a) = false := beq_eq_false_iff_ne.2 hy
          simp [List.lookup, this, ih y]
def Asc (lt : κ → κ → Bool) (m : List (κ × β)) : Prop := m.Pairwise fun p q => lt p.1 q.1 = true
theorem mem_putL [DecidableEq κ] {lt : κ → κ → Bool} {x : κ} {v : β} : ∀ {m : List (κ × β)} {q : κ × β}, q ∈ putL lt x v m → q = (x, v) ∨ q ∈ m := by
  intro m
  induction m with
  | nil => intro q h; simp [putL] at h; exact .inl h
  | cons p r ih =>
    obtain ⟨a, b⟩ := p
    intro q h
    unfold putL at h
    by_cases hl : lt x a = true
    · rw [if_pos hl] at h
      rcases List.mem_cons.1 h with h | h
      · exact .inl h
      · exact .inr h
    · rw [if_neg hl] at h
      by_cases hx : x = a
      · rw [if_pos hx] at h
        rcases List.mem_cons.1 h with h | h
        · exact .inl h
        · exact .inr (List.mem_cons_of_mem _ h)
      · rw [if_neg hx] at h
        rcases List.mem_cons.1 h with h | h
        · exact .inr (h ▸ List.mem_cons_self)
        · rcases ih h with h | h
          · exact .inl h
          · exact .inr (List.mem_cons_of_mem _ h)
structure Order (lt : κ → κ → Bool) : Prop where
  irrefl : ∀ x, lt x x = false
  trans : ∀ x y z, lt x y = true → lt y z = true → lt x z = true
  total : ∀ x y, lt x y = false → x ≠ y → lt y x = true
theorem Asc.put [DecidableEq κ] {lt : κ → κ → Bool} (O : Order lt) {m : List (κ × β)} (h : Asc lt m) (x : κ) (v : β) : Asc lt (putL lt x v m) := by
  induction m with
  | nil => simp [putL, Asc]
  | cons p r ih =>
    obtain ⟨a, b⟩ := p
    have hr := List.pairwise_cons.1 h
    unfold putL
    by_cases hl : lt x a = true
    · rw [if_pos hl]
      refine List.pairwise_cons.2 ⟨fun q hq => ?_, h⟩
      rcases List.mem_cons.1 hq with hq | hq
      · subst hq; exact hl
      · exact O.trans _ _ _ hl (hr.1 q hq)
    · rw [if_neg hl]
      by_cases hx : x = a
      · rw [if_pos hx]
        subst hx
        exact List.pairwise_cons.2 ⟨fun q hq => hr.1 q hq, hr.2⟩
      · rw [if_neg hx]
        refine List.pairwise_cons.2 ⟨fun q hq => ?_, ih hr.2⟩
        rcases mem_putL hq with hq | hq
        · subst hq; exact O.total _ _ (by simpa using hl) hx
        · exact hr.1 q hq
theorem Asc.nodup {lt : κ → κ → Bool} (O : Order lt) {m : List (κ × β)} (h : Asc lt m) : (m.map (·.1)).Nodup := by
  unfold List.Nodup
  rw [List.pairwise_map]
  refine h.imp fun {p q} hpq e => ?_
  rw [e, O.irrefl] at hpq
  cases hpq
/-- Two lists with the same entries, both sorted by the keys: the same list. -/
theorem perm_asc_eq {lt : κ → κ → Bool} (O : Order lt) {a b : List (κ × β)} (hp : a.Perm b) (ha : a.Pairwise fun p q => ¬ lt q.1 p.1 = true) (hb : Asc lt b) : a = b := by
  have hnb := hb.nodup O
  have hna : (a.map (·.1)).Nodup := ((hp.map (·.1)).nodup_iff).2 hnb
  have ha' : a.Pairwise fun p q => lt p.1 q.1 = true := by
    have h2 : a.Pairwise fun p q => p.1 ≠ q.1 := by unfold List.Nodup at hna; rwa [List.pairwise_map] at hna
    refine (ha.and h2).imp fun {p q} ⟨h1, h2⟩ => O.total _ _ (by simpa using h1) (Ne.symm h2)
  refine List.Perm.eq_of_pairwise (le := fun p q => lt p.1 q.1 = true) (fun p q _ _ h1 h2 => ?_) ha' (show List.Pairwise (fun p q : κ × β => lt p.1 q.1 = true) b from hb) hp
  have := O.trans _ _ _ h1 h2
  rw [O.irrefl] at this
  cases this
def ltI (x y : Int) : Bool := decide (x < y)
end Go.Proofs.Ytbmcddmhfnnccaa.ListKit
