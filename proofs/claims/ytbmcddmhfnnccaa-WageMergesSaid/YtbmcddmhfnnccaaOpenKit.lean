/- How an argument of a law is read: slices of structs, structs by value, strings, out of the reader's own word. -/
import Derived.Deep.Slices
import Derived.Test.YtbmcddmhfnnccaaWWords
namespace Go.Proofs.Ytbmcddmhfnnccaa.OpenKit
open Go.RowKit Go.ChangeShapes Go.WideShapes Go.Proofs.YtbmcddmhfnnccaaW.PrintWords
/-- What reads as of type t is told by the kind d; 'good' is known of it. -/
def Opens (P : Program) (t : TypeId) {α : Type} (d : Kd α) (good : α → Prop) : Prop :=
  ∀ (H : Type) (enc : TypeId × Value → H) (W : World) (fuel : Nat) (cs : List Value) (x : DataW H × List MemPlace), DataW.trod enc P W 0 (fun _ => true) true fuel t cs = some x → ∃ a, good a ∧ d.K W a cs
variable {P : Program} {t : TypeId} {α β : Type}
theorem Opens.int {k : IntKind} (ht : P.underlying t = some (.int k)) : Opens P t (Kd.int k) (fun n => (Lit.int k n).wf = true) := by
  intro H enc W fuel cs x h
  obtain ⟨n, rfl, _, hw⟩ := DataW.trod_int ht h
  exact ⟨n, hw, rfl⟩
theorem Opens.bool (ht : P.underlying t = some .bool) : Opens P t Kd.bool (fun _ => True) := by
  intro H enc W fuel cs x h
  obtain ⟨b, rfl, _⟩ := DataW.trod_bool ht h
  exact ⟨b, trivial, rfl⟩
theorem Opens.string (ht : P.underlying t = some .string) : Opens P t Kd.string (fun s => s.size ≤ maxLen) := by
  intro H enc W fuel cs x h
  obtain ⟨s, rfl, _, hs⟩ := DataW.trod_string ht h
  exact ⟨s, hs, rfl⟩
theorem Opens.iso {d : Kd α} {good : α → Prop} (h : Opens P t d good) (f : β → α) (g : α → β) (hfg : ∀ a, f (g a) = a) : Opens P t (Kd.iso d f) (fun b => good (f b)) := by
  intro H enc W fuel cs x hx
  obtain ⟨a, ha, hK⟩ := h H enc W fuel cs x hx
  exact ⟨g a, show good (f (g a)) by rw [hfg]; exact ha, show d.K W (f (g a)) cs by rw [hfg]; exact hK⟩
theorem Opens.mono {d : Kd α} {good good' : α → Prop} (h : Opens P t d good) (hg : ∀ a, good a → good' a) : Opens P t d good' := by
  intro H enc W fuel cs x hx
  obtain ⟨a, ha, hK⟩ := h H enc W fuel cs x hx
  exact ⟨a, hg a ha, hK⟩
/-- The fields of a struct from one on, at their cells. -/
def OpensF (P : Program) (fs : List Field) (off : Nat) (d : Kd α) (good : α → Prop) : Prop :=
  ∀ (H : Type) (enc : TypeId × Value → H) (W : World) (fuel : Nat) (cs : List Value), off + d.sz ≤ cs.length → (∀ f ∈ fs, ∃ x, DataW.trod enc P W 0 (fun _ => true) true fuel f.type ((cs.drop f.offset).take (P.cellsOf f.type)) = some x) → ∃ a, good a ∧ d.K W a ((cs.drop off).take d.sz)
theorem OpensF.one {f : Field} {off : Nat} {d : Kd α} {good : α → Prop} (h : Opens P f.type d good) (ho : f.offset = off) (hc : P.cellsOf f.type = d.sz) : OpensF P [f] off d good := by
  intro H enc W fuel cs _ hf
  obtain ⟨x, hx⟩ := hf f List.mem_cons_self
  rw [ho, hc] at hx
  exact h H enc W fuel _ x hx
theorem OpensF.cons {f : Field} {fs : List Field} {off : Nat} {d : Kd α} {good : α → Prop} {d2 : Kd β} {good2 : β → Prop} (h : Opens P f.type d good) (ho : f.offset = off) (hc : P.cellsOf f.type = d.sz) (h2 : OpensF P fs (off + d.sz) d2 good2) :
    OpensF P (f :: fs) off (Kd.pair d d2) (fun p => good p.1 ∧ good2 p.2) := by
  intro H enc W fuel cs hl hf
  have hl' : off + (d.sz + d2.sz) ≤ cs.length := hl
  obtain ⟨x, hx⟩ := hf f List.mem_cons_self
  rw [ho, hc] at hx
  obtain ⟨a, ha, hK⟩ := h H enc W fuel _ x hx
  obtain ⟨b, hb, hK2⟩ := h2 H enc W fuel cs (by omega) (fun g hg => hf g (List.mem_cons_of_mem _ hg))
  refine ⟨(a, b), ⟨ha, hb⟩, _, _, ?_, hK, hK2⟩
  show (cs.drop off).take (d.sz + d2.sz) = _
  rw [List.take_add, List.drop_drop]
theorem Opens.struct {fs : Array Field} {d : Kd α} {good : α → Prop} (ht : P.underlying t = some (.struct fs)) (hc : P.cellsOf t = d.sz) (h : OpensF P fs.toList 0 d good) : Opens P t d good := by
  intro H enc W fuel cs x hx
  obtain ⟨xs, n, _, _, hl, hxs, hf⟩ := DataW.trod_struct ht hx
  obtain ⟨a, ha, hK⟩ := h H enc W n cs (by omega) (fun f hfm => by
    obtain ⟨i, hi, rfl⟩ := List.getElem_of_mem hfm
    have h1 : fs[i]? = some fs.toList[i] := by simp [Array.getElem?_eq_getElem (show i < fs.size by simpa using hi)]
    have hi' : i < xs.length := by rw [hxs]; simpa using hi
    exact ⟨xs[i], by rw [hf i _ h1, List.getElem?_eq_getElem hi']⟩)
  rw [List.drop_zero, List.take_of_length_le (by omega)] at hK
  exact ⟨a, ha, hK⟩
theorem cells_get {w : World} {base : Nat} : ∀ (n : Nat) (a : Addr) (cs : List Value), w.cells? base a n = some cs → cs.length = n ∧ ∀ i u, cs[i]? = some u → w.cell? (a.add i) = some u := by
  intro n a cs h
  obtain ⟨_, h1, h2⟩ := World.cells?_some h
  exact ⟨h1, fun i u hi => by
    have hlt : i < n := by have := (List.getElem?_eq_some_iff.1 hi).1; omega
    rw [h2 i hlt, hi]⟩
theorem Opens.slice {e : TypeId} {d : Kd α} {good : α → Prop} (ht : P.underlying t = some (.slice e)) (hc : P.cellsOf e = d.sz) (h : Opens P e d good) : Opens P t (Kd.slice e d) (fun l => ∀ x ∈ l, good x) := by
  intro H enc W fuel cs x hx
  rcases DataW.trod_slice ht hx with ⟨rfl, _⟩ | ⟨a, len, cap, elems, rest, n, _, rfl, _, _, hl, hm, hlen, hel, _, _⟩
  · exact ⟨[], by simp, none, 0, rfl, Nat.le_refl _, Kd.C_nil _ _⟩
  · have he : ∀ i, i < len → ∃ p : α, good p ∧ ∃ c, c.length = d.sz ∧ d.K W p c ∧ ∀ j u, c[j]? = some u → W.cell? (a.add (i * d.sz + j)) = some u := by
      intro i hi
      have h1 := hel i hi
      rw [List.getElem?_eq_getElem (by omega), hc] at h1
      obtain ⟨c, hcs, htr⟩ := Option.bind_eq_some_iff.1 h1
      obtain ⟨p, hp, hK⟩ := h H enc W n c _ htr
      obtain ⟨hcl, hcc⟩ := cells_get _ _ _ hcs
      refine ⟨p, hp, c, hcl, hK, fun j u hj => ?_⟩
      have := hcc j u hj
      rw [← this]
      congr 1
      unfold Addr.add
      by_cases h1 : i * d.sz = 0 <;> by_cases h2 : j = 0 <;> simp [h1, h2, Nat.add_assoc]
    classical
    let f : Nat → Option α := fun i => if hi : i < len then some (Classical.choose (he i hi)) else none
    have hf : ∀ i (hi : i < len), ∃ p, f i = some p ∧ good p ∧ ∃ c, c.length = d.sz ∧ d.K W p c ∧ ∀ j u, c[j]? = some u → W.cell? (a.add (i * d.sz + j)) = some u := by
      intro i hi
      exact ⟨_, dif_pos hi, Classical.choose_spec (he i hi)⟩
    let l : List α := (List.range len).attach.map fun i => Classical.choose (he i.1 (List.mem_range.1 i.2))
    have hll : l.length = len := by simp [l]
    have hle : ∀ i p, l[i]? = some p → good p ∧ ∃ c, c.length = d.sz ∧ d.K W p c ∧ ∀ j u, c[j]? = some u → W.cell? (a.add (i * d.sz + j)) = some u := by
      intro i p hp
      obtain ⟨hi, rfl⟩ := List.getElem?_eq_some_iff.1 hp
      have hi' : i < len := by omega
      have : l[i] = Classical.choose (he i hi') := by simp [l]
      rw [this]
      exact Classical.choose_spec (he i hi')
    refine ⟨l, fun p hp => ?_, some a, cap, by rw [hll], by omega, ?_⟩
    · obtain ⟨i, hi, rfl⟩ := List.getElem_of_mem hp
      exact (hle i _ (List.getElem?_eq_getElem hi)).1
    · refine ⟨rfl, by unfold maxLen at hm; omega, fun _ => ⟨a, rfl, fun j p hp => ?_⟩⟩
      obtain ⟨_, c, h1, h2, h3⟩ := hle j p hp
      exact ⟨c, h1, h2, h3⟩
end Go.Proofs.Ytbmcddmhfnnccaa.OpenKit
