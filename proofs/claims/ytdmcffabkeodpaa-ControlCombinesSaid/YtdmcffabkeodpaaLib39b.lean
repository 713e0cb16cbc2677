/- The sums of each employee: plain Lean. -/
import Derived.Test.YtdmcffabkeodpaaLib39
namespace Go.Proofs.Ytdmcffabkeodpaa.Lib39
open Go.RowKit Go.Proofs.Ytdmcffabkeodpaa.Q Go.Proofs.YtdmcffabkeodpaaW.PrintWords Go.Proofs.YtdmcffabkeodpaaW.PrintLast Go.Proofs.Ytdmcffabkeodpaa.DeckLib Go.Proofs.Ytdmcffabkeodpaa.ListKit Go.Proofs.Ytdmcffabkeodpaa.MapKit
def sumAt (l : List Pay) (e : Int) : Int := (l.map fun p => if p.f0 = e then p.f1 else 0).sum
def hasE (l : List Pay) (e : Int) : Bool := l.any fun p => decide (p.f0 = e)
theorem sumAt_cons (p : Pay) (r : List Pay) (e : Int) : sumAt (p :: r) e = (if p.f0 = e then p.f1 else 0) + sumAt r e := by simp [sumAt]
theorem sumA_cons (p : Pay) (r : List Pay) : sumA (p :: r) = p.f1 + sumA r := by simp [sumA]
theorem sumE_cons (p : Pay) (r : List Pay) : sumE (p :: r) = p.f0 + sumE r := by simp [sumE]
theorem sumAt_bounds (e : Int) : ∀ l : List Pay, (∀ p ∈ l, 0 ≤ p.f1) → 0 ≤ sumAt l e ∧ sumAt l e ≤ sumA l := by
  intro l
  induction l with
  | nil => intro _; simp [sumAt, sumA]
  | cons p r ih =>
    intro h
    have h1 := ih (fun q hq => h q (List.mem_cons_of_mem _ hq))
    have h2 := h p List.mem_cons_self
    rw [sumAt_cons, sumA_cons]
    split <;> omega
theorem sumAt_none (e : Int) : ∀ l : List Pay, hasE l e = false → sumAt l e = 0 := by
  intro l
  induction l with
  | nil => intro _; rfl
  | cons p r ih =>
    intro h
    simp only [hasE, List.any_cons, Bool.or_eq_false_iff, decide_eq_false_iff_not] at h
    rw [sumAt_cons, if_neg h.1, ih h.2]
    rfl
theorem fold_lookup : ∀ (l : List Pay) (m : List (Int × Int)), (∀ p ∈ l, 0 ≤ p.f1) → (∀ e, 0 ≤ (m.lookup e).getD 0 ∧ (m.lookup e).getD 0 + sumA l ≤ 9223372036854775807) →
    ∀ e, (l.foldl paySum m).lookup e = if hasE l e = true then some ((m.lookup e).getD 0 + sumAt l e) else m.lookup e := by
  intro l
  induction l with
  | nil => intro m _ _ e; simp [hasE]
  | cons p r ih =>
    intro m hp hm e
    have h1 := hp p List.mem_cons_self
    have hb := hm p.f0
    rw [sumA_cons] at hb
    have hr : ∀ q ∈ r, 0 ≤ q.f1 := fun q hq => hp q (List.mem_cons_of_mem _ hq)
    have hsr : 0 ≤ sumA r := by have := sumAt_bounds 0 r hr; omega
    have hlk : ∀ y, (paySum m p).lookup y = if y = p.f0 then some ((m.lookup p.f0).getD 0 + p.f1) else m.lookup y := by
      intro y
      unfold paySum
      rw [lookup_putL, wrap_id (by omega) (by omega)]
    rw [List.foldl_cons, ih _ hr (fun y => ?_) e, hlk, sumAt_cons]
    · simp only [hasE, List.any_cons]
      by_cases he : e = p.f0
      · subst he
        by_cases h2 : r.any (fun q => decide (q.f0 = p.f0)) = true
        · simp [h2]; omega
        · have h3 : sumAt r p.f0 = 0 := sumAt_none _ r (by simpa [hasE] using h2)
          simp [h3]
      · have hne : ¬ p.f0 = e := fun h => he h.symm
        simp [he, hne]
    · rw [hlk]
      have hy := hm y
      rw [sumA_cons] at hy
      by_cases hyp : y = p.f0
      · rw [if_pos hyp]; simp; omega
      · rw [if_neg hyp]; omega
theorem paySums_lookup (l : List Pay) (hp : ∀ p ∈ l, 0 ≤ p.f1) (hs : sumA l ≤ 9223372036854775807) (e : Int) : (paySums l).lookup e = if hasE l e = true then some (sumAt l e) else none := by
  have := fold_lookup l [] hp (fun e => by simp; exact hs) e
  simpa [paySums] using this
def toPays (m : List (Int × Int)) : List Pay := m.map fun p => ⟨p.1, p.2⟩
theorem hasE_toPays (m : List (Int × Int)) (e : Int) : hasE (toPays m) e = true ↔ e ∈ m.map (·.1) := by
  simp [hasE, toPays]
theorem sumAt_toPays : ∀ (m : List (Int × Int)) (e : Int), (m.map (·.1)).Nodup → sumAt (toPays m) e = (m.lookup e).getD 0 := by
  intro m
  induction m with
  | nil => intro e _; rfl
  | cons q r ih =>
    obtain ⟨a, b⟩ := q
    intro e hn
    simp only [List.map_cons, List.nodup_cons] at hn
    have h1 := ih e hn.2
    have hc : sumAt (toPays ((a, b) :: r)) e = (if a = e then b else 0) + sumAt (toPays r) e := by simp [toPays, sumAt]
    rw [hc, h1]
    by_cases he : e = a
    · subst he
      have : r.lookup e = none := lookup_none.2 hn.1
      simp [List.lookup, this]
    · have h2 : (e == a) = false := beq_eq_false_iff_ne.2 he
      simp [List.lookup, h2, Ne.symm he]
/-- Combining what has been combined changes nothing. -/
theorem paySums_again (l : List Pay) (hp : ∀ p ∈ l, 0 ≤ p.f1) (hs : sumA l ≤ 9223372036854775807) (hp2 : ∀ p ∈ toPays (paySums l), 0 ≤ p.f1) (hs2 : sumA (toPays (paySums l)) ≤ 9223372036854775807) : paySums (toPays (paySums l)) = paySums l := by
  have hn := (paySums_asc l).nodup orderI
  refine (perm_asc_eq orderI ?_ ?_ (paySums_asc l))
  · refine perm_of_lookup ((paySums_asc _).nodup orderI) hn fun e => ?_
    rw [paySums_lookup _ hp2 hs2]
    by_cases h : hasE (toPays (paySums l)) e = true
    · rw [if_pos h, sumAt_toPays _ _ hn]
      rw [hasE_toPays] at h
      cases hl : (paySums l).lookup e with
      | none => exact absurd h (lookup_none.1 hl)
      | some c => rfl
    · rw [if_neg h]
      rw [hasE_toPays] at h
      exact (lookup_none.2 h).symm
  · exact (paySums_asc _).imp fun {p q} hpq hqp => by
      have := orderI.trans _ _ _ hpq hqp
      rw [orderI.irrefl] at this
      cases this
theorem sumAt_comb (l : List Pay) (hp : ∀ p ∈ l, 0 ≤ p.f1) (hs : sumA l ≤ 9223372036854775807) (e : Int) : sumAt (toPays (paySums l)) e = sumAt l e := by
  rw [sumAt_toPays _ _ ((paySums_asc l).nodup orderI), paySums_lookup l hp hs]
  by_cases h : hasE l e = true
  · rw [if_pos h]; rfl
  · rw [if_neg h]
    exact (sumAt_none e l (by simpa using h)).symm
/-- The sum of a list of entries whose keys are among those of 'ks', each once: the sum over the keys. -/
theorem sumA_parts : ∀ (ks : List Int) (l : List Pay), ks.Nodup → (∀ p ∈ l, p.f0 ∈ ks) → sumA l = (ks.map (sumAt l)).sum := by
  intro ks l hn
  induction l with
  | nil =>
    intro _
    have h0 : ∀ ks : List Int, (ks.map (sumAt [])).sum = 0 := by
      intro ks
      induction ks with
      | nil => rfl
      | cons a r ih => simp only [List.map_cons, List.sum_cons, ih]; rfl
    rw [h0]; rfl
  | cons p r ih =>
    intro h
    have h1 := ih (fun q hq => h q (List.mem_cons_of_mem _ hq))
    have hp := h p List.mem_cons_self
    rw [sumA_cons, h1]
    clear h1 ih h
    induction ks with
    | nil => cases hp
    | cons a ks ih =>
      have hn' := List.nodup_cons.1 hn
      simp only [List.map_cons, List.sum_cons, sumAt_cons]
      by_cases ha : p.f0 = a
      · rw [if_pos ha]
        have : ∀ ks : List Int, p.f0 ∉ ks → (ks.map fun x => (if p.f0 = x then p.f1 else 0) + sumAt r x).sum = (ks.map (sumAt r)).sum := by
          intro ks
          induction ks with
          | nil => intro _; rfl
          | cons b bs ihb =>
            intro hb
            simp only [List.mem_cons, not_or] at hb
            simp only [List.map_cons, List.sum_cons]
            rw [ihb hb.2, if_neg hb.1, Int.zero_add]
        have h2 := this ks (ha ▸ hn'.1)
        have h3 : (ks.map (sumAt (p :: r))).sum = (ks.map (sumAt r)).sum := by
          rw [← h2]; exact congrArg List.sum (List.map_congr_left fun x _ => sumAt_cons p r x)
        rw [h3]; omega
      · rw [if_neg ha]
        have hp' : p.f0 ∈ ks := by
          rcases List.mem_cons.1 hp with h | h
          · exact absurd h ha
          · exact h
        have := ih hn'.2 hp'
        omega
theorem sumA_comb (l : List Pay) (hp : ∀ p ∈ l, 0 ≤ p.f1) (hs : sumA l ≤ 9223372036854775807) : sumA (toPays (paySums l)) = sumA l := by
  have hn := (paySums_asc l).nodup orderI
  have hks : ∀ p ∈ l, p.f0 ∈ (paySums l).map (·.1) := by
    intro p h
    cases hl : (paySums l).lookup p.f0 with
    | none =>
      rw [paySums_lookup l hp hs, if_pos (by simp [hasE]; exact ⟨p, h, rfl⟩)] at hl
      cases hl
    | some c => exact List.mem_map.2 ⟨_, mem_of_lookup hl, rfl⟩
  have hks2 : ∀ p ∈ toPays (paySums l), p.f0 ∈ (paySums l).map (·.1) := by
    intro p h
    obtain ⟨q, hq, rfl⟩ := List.mem_map.1 h
    exact List.mem_map.2 ⟨q, hq, rfl⟩
  rw [sumA_parts _ _ hn hks2, sumA_parts _ _ hn hks]
  exact congrArg List.sum (List.map_congr_left fun e _ => sumAt_comb l hp hs e)
end Go.Proofs.Ytdmcffabkeodpaa.Lib39
