/- Sums by keys: lists of entries in ascending order, whatever is added up. Plain Lean. -/
import Derived.Test.YtbmcddmhfnnccaaMapKit3
namespace Go.Proofs.Ytbmcddmhfnnccaa.ListKit
open Go.RowKit Go.Proofs.Ytbmcddmhfnnccaa.MapKit Go.Proofs.YtbmcddmhfnnccaaW.PrintWords
theorem wrapid {x : Int} (h : -9223372036854775808 ≤ x) (h2 : x ≤ 9223372036854775807) : wrap64 x = x := by unfold wrap64; omega
theorem Order.asym {κ : Type} {lt : κ → κ → Bool} (O : Order lt) {x y : κ} (h : lt x y = true) : lt y x = false := by
  cases h2 : lt y x with
  | false => rfl
  | true => have := O.trans _ _ _ h h2; rw [O.irrefl] at this; cases this
/-- Pairs, the first field first. -/
def ltP {κ κ' : Type} [DecidableEq κ] (lt : κ → κ → Bool) (lt' : κ' → κ' → Bool) (x y : Pr κ κ') : Bool := lt x.a y.a || (decide (x.a = y.a) && lt' x.b y.b)
section
variable {κ : Type} [DecidableEq κ] {β : Type}
/-- Where an entry is laid. -/
theorem put_split {lt : κ → κ → Bool} (O : Order lt) (m : List (κ × β)) (hm : Asc lt m) (e : κ) (v : β) : ∃ a b, m = a ++ b ∧ (∀ q ∈ a, lt q.1 e = true) ∧
    ((∃ w b', b = (e, w) :: b' ∧ putL lt e v m = a ++ (e, v) :: b' ∧ m.lookup e = some w) ∨ ((∀ q ∈ b, lt e q.1 = true) ∧ putL lt e v m = a ++ (e, v) :: b ∧ m.lookup e = none)) := by
  induction m with
  | nil => exact ⟨[], [], rfl, by simp, .inr ⟨by simp, rfl, rfl⟩⟩
  | cons q r ih =>
    obtain ⟨x, w⟩ := q
    have hc := List.pairwise_cons.1 hm
    unfold putL
    by_cases h1 : lt e x = true
    · rw [if_pos h1]
      have hlt : ∀ q ∈ (x, w) :: r, lt e q.1 = true := fun q hq => by
        rcases List.mem_cons.1 hq with h | h
        · subst h; exact h1
        · exact O.trans _ _ _ h1 (hc.1 q h)
      refine ⟨[], (x, w) :: r, rfl, by simp, .inr ⟨hlt, rfl, ?_⟩⟩
      rw [lookup_none]
      intro hmem
      obtain ⟨q, hq, he⟩ := List.mem_map.1 hmem
      have := hlt q hq
      rw [he, O.irrefl] at this; cases this
    · rw [if_neg h1]
      by_cases h2 : e = x
      · rw [if_pos h2]
        subst h2
        exact ⟨[], (e, w) :: r, rfl, by simp, .inl ⟨w, r, rfl, rfl, by simp [List.lookup]⟩⟩
      · rw [if_neg h2]
        obtain ⟨a, b, rfl, ha, hcase⟩ := ih hc.2
        have hb : (e == x) = false := beq_eq_false_iff_ne.2 h2
        refine ⟨(x, w) :: a, b, rfl, fun q hq => ?_, ?_⟩
        · rcases List.mem_cons.1 hq with h | h
          · subst h; exact O.total _ _ (by simpa using h1) h2
          · exact ha q h
        · rcases hcase with ⟨w', b', e1, e2, e3⟩ | ⟨e1, e2, e3⟩
          · exact .inl ⟨w', b', e1, by rw [e2]; rfl, by rw [List.lookup, hb]; exact e3⟩
          · exact .inr ⟨e1, by rw [e2]; rfl, by rw [List.lookup, hb]; exact e3⟩
theorem putL_len (lt : κ → κ → Bool) (x : κ) (v : β) (m : List (κ × β)) : (putL lt x v m).length ≤ m.length + 1 := by
  induction m with
  | nil => simp [putL]
  | cons p r ih =>
    obtain ⟨a, b⟩ := p
    unfold putL
    split
    · simp
    · split
      · simp
      · simp only [List.length_cons]; omega
end
section
variable {κ α : Type} [DecidableEq κ] (lt : κ → κ → Bool) (f : α → κ) (g : α → Int)
/-- One amount added to its key. -/
def addG (m : List (κ × Int)) (x : α) : List (κ × Int) := putL lt (f x) (wrap64 ((m.lookup (f x)).getD 0 + g x)) m
/-- The sums by keys. -/
def addsG (m : List (κ × Int)) (l : List α) : List (κ × Int) := l.foldl (addG lt f g) m
def sumG (l : List α) (e : κ) : Int := (l.map fun x => if f x = e then g x else 0).sum
def hasG (l : List α) (e : κ) : Bool := l.any fun x => decide (f x = e)
variable {lt f g}
theorem addsG_len (l : List α) : ∀ (m : List (κ × Int)), (addsG lt f g m l).length ≤ m.length + l.length := by
  induction l with
  | nil => intro m; exact Nat.le_refl _
  | cons p r ih =>
    intro m
    have h1 := ih (addG lt f g m p)
    have h2 := putL_len lt (f p) (wrap64 ((m.lookup (f p)).getD 0 + g p)) m
    simp only [addsG, List.foldl_cons, List.length_cons] at *
    unfold addG at h1 ⊢
    omega
theorem isum_perm {a b : List Int} (h : a.Perm b) : a.sum = b.sum := by
  induction h with
  | nil => rfl
  | cons x _ ih => rw [List.sum_cons, List.sum_cons, ih]
  | swap x y l => simp only [List.sum_cons]; omega
  | trans _ _ h1 h2 => rw [h1, h2]
/-- The entries of a list of entries that are not 0, made into rows. -/
def keepG {γ : Type} (mk : κ × Int → γ) (m : List (κ × Int)) : List γ := (m.filter fun p => decide (p.2 ≠ 0)).map mk
end
/-- Entries taken off: 'd[k] -= n' for each entry of m. -/
def subG {κ : Type} [DecidableEq κ] (lt : κ → κ → Bool) (d m : List (κ × Int)) : List (κ × Int) := m.foldl (fun d p => putL lt p.1 (wrap64 ((d.lookup p.1).getD 0 - p.2)) d) d
section
variable {κ : Type} [DecidableEq κ] {lt : κ → κ → Bool}
end
end Go.Proofs.Ytbmcddmhfnnccaa.ListKit
