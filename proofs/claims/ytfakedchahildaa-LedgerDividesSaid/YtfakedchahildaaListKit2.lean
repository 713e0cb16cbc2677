/- Sums by keys: lists of entries in ascending order, whatever is added up. Plain Lean. -/
import Derived.Test.YtfakedchahildaaMapKit3
namespace Go.Proofs.Ytfakedchahildaa.ListKit
open Go.RowKit Go.Proofs.Ytfakedchahildaa.MapKit Go.Proofs.YtfakedchahildaaW.PrintWords
theorem wrapadd (a b : Int) : wrap64 (wrap64 a + b) = wrap64 (a + b) := by unfold wrap64; omega
theorem wrapid {x : Int} (h : -9223372036854775808 ≤ x) (h2 : x ≤ 9223372036854775807) : wrap64 x = x := by unfold wrap64; omega
theorem Order.asym {κ : Type} {lt : κ → κ → Bool} (O : Order lt) {x y : κ} (h : lt x y = true) : lt y x = false := by
  cases h2 : lt y x with
  | false => rfl
  | true => have := O.trans _ _ _ h h2; rw [O.irrefl] at this; cases this
/-- Pairs, the first field first. -/
def ltP {κ κ' : Type} [DecidableEq κ] (lt : κ → κ → Bool) (lt' : κ' → κ' → Bool) (x y : Pr κ κ') : Bool := lt x.a y.a || (decide (x.a = y.a) && lt' x.b y.b)
theorem orderP {κ κ' : Type} [DecidableEq κ] {lt : κ → κ → Bool} {lt' : κ' → κ' → Bool} (O : Order lt) (O' : Order lt') : Order (ltP lt lt') := by
  refine ⟨fun x => by simp [ltP, O.irrefl, O'.irrefl], fun x y z h1 h2 => ?_, fun x y h hne => ?_⟩
  · simp only [ltP, Bool.or_eq_true, Bool.and_eq_true, decide_eq_true_eq] at *
    rcases h1 with h1 | ⟨e1, h1⟩
    · rcases h2 with h2 | ⟨e2, h2⟩
      · exact .inl (O.trans _ _ _ h1 h2)
      · exact .inl (e2 ▸ h1)
    · rcases h2 with h2 | ⟨e2, h2⟩
      · exact .inl (e1 ▸ h2)
      · exact .inr ⟨e1.trans e2, O'.trans _ _ _ h1 h2⟩
  · simp only [ltP, Bool.or_eq_false_iff, Bool.and_eq_false_iff, decide_eq_false_iff_not] at h
    simp only [ltP, Bool.or_eq_true, Bool.and_eq_true, decide_eq_true_eq]
    by_cases e : x.a = y.a
    · right
      refine ⟨e.symm, O'.total _ _ ?_ fun e2 => hne (Pr.inj e e2)⟩
      rcases h.2 with h2 | h2
      · exact absurd e h2
      · exact h2
    · exact .inl (O.total _ _ h.1 e)
section
variable {κ : Type} [DecidableEq κ] {β : Type}
/-- Where an entry is laid. -/
theorem put_split {lt : κ → κ → Bool} (O : Order lt) (m : List (κ × β)) (hm : Asc lt m) (e : κ) (v : β) : ∃ a b, m = a ++ b ∧ (∀ q ∈ a, lt q.1 e = true) ∧
    ((∃ w b', b = (e, w) :: b' ∧ putL lt e v m = a ++ (e, v) :: b' ∧ m.lookup e = some w) ∨ ((∀ q ∈ b, lt e q.1 = true) ∧ putL lt e v m = a ++ (e, v) :: b ∧ m.lookup e = none)) := by
  induction m with
  | nil => exact ⟨[], [], rfl, by simp, .inr ⟨by simp, rfl, rfl⟩⟩
  | cons q r ih =>
    obtain ⟨x, w⟩ := q
    have hc := List.pairwise_cons.1 hm
    unfold putL
    by_cases h1 : lt e x = true
    · rw [if_pos h1]
      have hlt : ∀ q ∈ (x, w) :: r, lt e q.1 = true := fun q hq => by
        rcases List.mem_cons.1 hq with h | h
        · subst h; exact h1
        · exact O.trans _ _ _ h1 (hc.1 q h)
      refine ⟨[], (x, w) :: r, rfl, by simp, .inr ⟨hlt, rfl, ?_⟩⟩
      rw [lookup_none]
      intro hmem
      obtain ⟨q, hq, he⟩ := List.mem_map.1 hmem
      have := hlt q hq
      rw [he, O.irrefl] at this; cases this
    · rw [if_neg h1]
      by_cases h2 : e = x
      · rw [if_pos h2]
        subst h2
        exact ⟨[], (e, w) :: r, rfl, by simp, .inl ⟨w, r, rfl, rfl, by simp [List.lookup]⟩⟩
      · rw [if_neg h2]
        obtain ⟨a, b, rfl, ha, hcase⟩ := ih hc.2
        have hb : (e == x) = false := beq_eq_false_iff_ne.2 h2
        refine ⟨(x, w) :: a, b, rfl, fun q hq => ?_, ?_⟩
        · rcases List.mem_cons.1 hq with h | h
          · subst h; exact O.total _ _ (by simpa using h1) h2
          · exact ha q h
        · rcases hcase with ⟨w', b', e1, e2, e3⟩ | ⟨e1, e2, e3⟩
          · exact .inl ⟨w', b', e1, by rw [e2]; rfl, by rw [List.lookup, hb]; exact e3⟩
          · exact .inr ⟨e1, by rw [e2]; rfl, by rw [List.lookup, hb]; exact e3⟩
theorem putL_len (lt : κ → κ → Bool) (x : κ) (v : β) (m : List (κ × β)) : (putL lt x v m).length ≤ m.length + 1 := by
  induction m with
  | nil => simp [putL]
  | cons p r ih =>
    obtain ⟨a, b⟩ := p
    unfold putL
    split
    · simp
    · split
      · simp
      · simp only [List.length_cons]; omega
/-- Two ascending lists of entries with the same answers are the same. -/
theorem asc_ext {lt : κ → κ → Bool} (O : Order lt) {a b : List (κ × β)} (ha : Asc lt a) (hb : Asc lt b) (h : ∀ x, a.lookup x = b.lookup x) : a = b := by
  refine perm_asc_eq O (perm_of_lookup (ha.nodup O) (hb.nodup O) h) (ha.imp fun {p q} hpq hqp => ?_) hb
  rw [O.asym hpq] at hqp; cases hqp
end
section
variable {κ α : Type} [DecidableEq κ] (lt : κ → κ → Bool) (f : α → κ) (g : α → Int)
/-- One amount added to its key. -/
def addG (m : List (κ × Int)) (x : α) : List (κ × Int) := putL lt (f x) (wrap64 ((m.lookup (f x)).getD 0 + g x)) m
/-- The sums by keys. -/
def addsG (m : List (κ × Int)) (l : List α) : List (κ × Int) := l.foldl (addG lt f g) m
def sumG (l : List α) (e : κ) : Int := (l.map fun x => if f x = e then g x else 0).sum
def hasG (l : List α) (e : κ) : Bool := l.any fun x => decide (f x = e)
variable {lt f g}
theorem addsG_snoc (m : List (κ × Int)) (l : List α) (x : α) : addsG lt f g m (l ++ [x]) = addG lt f g (addsG lt f g m l) x := by simp [addsG, List.foldl_append]
theorem addsG_asc (O : Order lt) (l : List α) : ∀ (m : List (κ × Int)), Asc lt m → Asc lt (addsG lt f g m l) := by
  induction l with
  | nil => intro m h; exact h
  | cons p r ih => intro m h; exact ih _ (h.put O _ _)
theorem addsG_len (l : List α) : ∀ (m : List (κ × Int)), (addsG lt f g m l).length ≤ m.length + l.length := by
  induction l with
  | nil => intro m; exact Nat.le_refl _
  | cons p r ih =>
    intro m
    have h1 := ih (addG lt f g m p)
    have h2 := putL_len lt (f p) (wrap64 ((m.lookup (f p)).getD 0 + g p)) m
    simp only [addsG, List.foldl_cons, List.length_cons] at *
    unfold addG at h1 ⊢
    omega
theorem sumG_cons (x : α) (l : List α) (e : κ) : sumG f g (x :: l) e = (if f x = e then g x else 0) + sumG f g l e := by simp [sumG]
theorem sumG_append (a b : List α) (e : κ) : sumG f g (a ++ b) e = sumG f g a e + sumG f g b e := by simp [sumG]
theorem sumG_none (l : List α) (e : κ) (h : hasG f l e = false) : sumG f g l e = 0 := by
  induction l with
  | nil => rfl
  | cons x r ih =>
    simp only [hasG, List.any_cons, Bool.or_eq_false_iff, decide_eq_false_iff_not] at h
    rw [sumG_cons, if_neg h.1, ih h.2]; rfl
theorem addsG_lookup (l : List α) : ∀ (m : List (κ × Int)) (e : κ), (addsG lt f g m l).lookup e = if hasG f l e = true then some (wrap64 ((m.lookup e).getD 0 + sumG f g l e)) else m.lookup e := by
  induction l with
  | nil => intro m e; simp [addsG, hasG]
  | cons x r ih =>
    intro m e
    have := ih (addG lt f g m x) e
    simp only [addsG, List.foldl_cons] at this ⊢
    rw [this]
    unfold addG
    rw [lookup_putL, sumG_cons]
    simp only [hasG, List.any_cons]
    by_cases he : e = f x
    · subst he
      by_cases h2 : r.any (fun q => decide (f q = f x)) = true
      · simp [h2, wrapadd, Int.add_assoc]
      · have h3 : sumG f g r (f x) = 0 := sumG_none r _ (by simpa [hasG] using h2)
        simp [h2, h3]
    · have hne : ¬ f x = e := fun h => he h.symm
      simp [he, hne]
theorem addsG_nil_lookup (l : List α) (e : κ) : (addsG lt f g [] l).lookup e = if hasG f l e = true then some (wrap64 (sumG f g l e)) else none := by
  rw [addsG_lookup]; simp
/-- The entries of a list of entries that are not 0, made into rows. -/
def keepG {γ : Type} (mk : κ × Int → γ) (m : List (κ × Int)) : List γ := (m.filter fun p => decide (p.2 ≠ 0)).map mk
omit [DecidableEq κ] in
theorem keepG_snoc {γ : Type} (mk : κ × Int → γ) (m : List (κ × Int)) (p : κ × Int) : keepG mk (m ++ [p]) = keepG mk m ++ (if p.2 = 0 then [] else [mk p]) := by
  unfold keepG
  rw [List.filter_append, List.map_append]
  by_cases h : p.2 = 0 <;> simp [h]
omit [DecidableEq κ] in
theorem keepG_len {γ : Type} (mk : κ × Int → γ) (m : List (κ × Int)) : (keepG mk m).length ≤ m.length := by
  unfold keepG; rw [List.length_map]; exact List.length_filter_le _ _
end
/-- Entries taken off: 'd[k] -= n' for each entry of m. -/
def subG {κ : Type} [DecidableEq κ] (lt : κ → κ → Bool) (d m : List (κ × Int)) : List (κ × Int) := m.foldl (fun d p => putL lt p.1 (wrap64 ((d.lookup p.1).getD 0 - p.2)) d) d
section
variable {κ : Type} [DecidableEq κ] {lt : κ → κ → Bool}
end
end Go.Proofs.Ytfakedchahildaa.ListKit
