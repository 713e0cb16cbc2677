/- A slice of structs of the call's own that is handed to slices.SortFunc: behind the call it is the call's own still, and its elements are a sorted permutation of what they were. -/
import Derived.Shelf.SlSortCmp.WholeK
import Derived.Shelf.SlSortCmp.NoneTotal
import Derived.Test.YtbmcddmhfnnccaaWWords
namespace Go.Proofs.Ytbmcddmhfnnccaa.SortKit
open Go.Shelf Go.RowKit Go.Lib Go.Sort Go.Proofs Go.Proofs.YtbmcddmhfnnccaaW.PrintWords
variable {S : Type}

/-- A flat kind: an element's cells are 'enc x', in whatever world. -/
structure Flat (d : Kd S) (enc : S → List Value) : Prop where
  len : ∀ x, (enc x).length = d.sz
  one : ∀ x, ∀ v ∈ enc x, v.oneCell' = true
  toM : ∀ (w : World) (base : Nat) (ok : Nat → Prop) (x : S), d.M w base ok x (enc x)
  ofM : ∀ (w : World) (base : Nat) (ok : Nat → Prop) (x : S) (cs : List Value), d.M w base ok x cs → cs = enc x

/-- A flat row is its block alone. -/
theorem Flat.kept {d : Kd S} {enc : S → List Value} (F : Flat d enc) {e : Nat} {w w' : World} {base : Nat} {ok : Nat → Prop} {v : Value} {xs : List S} (h : d.R e w base ok v xs) {row : Option Nat} (hg : w.grownBy w' row) (hne : ∀ k, v.ownBlock = some k → some k ≠ row) : d.R e w' base ok v xs := by
  obtain ⟨h0, inner, ho, hr⟩ := h
  refine ⟨h0, inner, ho.kept hg ?_, hr.1, fun j p hj => ?_⟩
  · cases hv : v.ownBlock with
    | none => exact .inl rfl
    | some k => exact .inr (hne k hv)
  · have := hr.2 j p hj
    rw [F.ofM _ _ _ _ _ this]
    exact F.toM _ _ _ _
theorem reps_enc {R : S → List Value → Prop} {enc : S → List Value} {k : Nat} (hR : ∀ x cs, R x cs → cs = enc x) {xs : List S} {inner : List Value} (h : Reps R k xs inner) (j t : Nat) (x : S) (hj : xs[j]? = some x) (ht : t < k) : inner[j * k + t]? = (enc x)[t]? := by
  have := hR _ _ (h.2 j x hj)
  rw [← this, List.getElem?_take, if_pos ht, List.getElem?_drop]

variable {α : Type} [Inhabited α]
theorem reps_holds {d : Kd S} {enc : S → List Value} (F : Flat d enc) (f : α → S) {w : World} {base e g n cap : Nat} {inner : List Value} {R : S → List Value → Prop} (hR : ∀ x cs, R x cs → cs = enc x)
    (ho : w.ownsRow base e d.sz (.slice (some ⟨g, 0, none⟩) n cap) n inner) (zs : List α) (hn : zs.length = n) (h : Reps R d.sz (zs.map f) inner) : HoldsK (fun a => enc (f a)) d.sz w g 0 zs.toArray := by
  intro j hj
  have hsz : (flatK (fun a => enc (f a)) d.sz zs.toArray).size = n * d.sz := by simp [flatK, hn]
  have hj' : j < n * d.sz := by rwa [hsz] at hj
  have hk : 0 < d.sz := by
    rcases Nat.eq_zero_or_pos d.sz with h0 | h0
    · rw [h0] at hj'; omega
    · exact h0
  have hdiv : j / d.sz < n := Nat.div_lt_of_lt_mul (by rw [Nat.mul_comm]; exact hj')
  have hlz : j / d.sz < zs.length := by omega
  refine ⟨?_, ?_⟩
  · rw [Nat.zero_add, ho.cellAt j hj', get_flatK _ _ _ _ (by simpa [hn] using hj')]
    have hx : (zs.map f)[j / d.sz]? = some (f zs[j / d.sz]) := by simp [List.getElem?_eq_getElem hlz]
    have hm : j % d.sz < d.sz := Nat.mod_lt _ hk
    have := reps_enc hR h (j / d.sz) (j % d.sz) _ hx hm
    rw [Nat.mul_comm, Nat.div_add_mod] at this
    rw [this, id]
    have hl := F.len (f zs[j / d.sz])
    rw [List.getElem?_eq_getElem (by omega)]
    simp only [getElem!_def, List.getElem?_toArray, List.getElem?_eq_getElem hlz]
    rw [List.getElem?_eq_getElem (by omega)]
  · rw [Nat.zero_add]; exact ho.frozenAt j

theorem grown_sorted {enc : α → List Value} {k : Nat} (w : World) (g n : Nat) (d : Array α) (os : Array Obj) : w.grownBy (sortWorldK enc k w g 0 n d os) (some g) := by
  unfold sortWorldK putRowK
  refine ⟨rfl, rfl, rfl, by simp, fun k hk hne => ?_⟩
  rw [heap_grow_old _ _ (by simpa using hk)]
  have : g ≠ k := fun e => hne (by rw [e])
  simp [putRow, mapBlock, Sort.ahead, Array.getElem?_modify, this]

theorem owns_sorted {d : Kd S} {enc : S → List Value} (F : Flat d enc) (f : α → S) {w : World} {base e g n cap m : Nat} {inner : List Value} {os : Array Obj}
    (ho : w.ownsRow base e d.sz (.slice (some ⟨g, 0, none⟩) n cap) n inner) (zs : List α) (hn : zs.length = n) (base' : Nat) (ok : Nat → Prop) :
    OwnRow (d.M (sortWorldK (fun a => enc (f a)) d.sz w g 0 m zs.toArray os) base' ok) e d.sz (sortWorldK (fun a => enc (f a)) d.sz w g 0 m zs.toArray os) base (.slice (some ⟨g, 0, none⟩) n cap) (zs.map f) := by
  rcases ho.2 with ⟨h', _⟩ | ⟨g', cap', cur, h', hb, hg, hnc, hcm, hcs, htake⟩
  · cases h'
  · have hgg : g = g' := by injection h' with h1; injection h1 with h1; injection h1
    have hcap : cap = cap' := by injection h'
    subst hgg hcap
    have hlt : g < w.heap.size := (Array.getElem?_eq_some_iff.1 hg).1
    have hblk : (sortWorldK (fun a => enc (f a)) d.sz w g 0 m zs.toArray os).heap[g]? = some (.cells (putCells id 0 (flatK (fun a => enc (f a)) d.sz zs.toArray) cur) e (0, 0)) := by
      unfold sortWorldK putRowK
      rw [heap_grow_old _ _ (by simpa using hlt)]
      simp [putRow, mapBlock, Sort.ahead, Array.getElem?_modify, hg, onCells]
    have hfs : (flatK (fun a => enc (f a)) d.sz zs.toArray).size = n * d.sz := by simp [flatK, hn]
    have hcell : ∀ t, t < n * d.sz → (putCells id 0 (flatK (fun a => enc (f a)) d.sz zs.toArray) cur)[t]? = some ((enc (f zs.toArray[t / d.sz]!))[t % d.sz]!) := by
      intro t ht
      have hc : t < cur.size := by rw [hcs]; exact Nat.lt_of_lt_of_le ht (Nat.mul_le_mul_right _ hnc)
      have hne : ¬ (flatK (fun a => enc (f a)) d.sz zs.toArray).size ≤ t := by omega
      simp only [putCells, Array.getElem?_mapIdx, Array.getElem?_eq_getElem hc, Option.map_some, Nat.zero_le, true_and, Nat.zero_add, Nat.sub_zero, hfs, ht, if_true, id]
      rw [get_flatK _ _ _ _ (by simpa [hn] using ht)]
    refine ⟨(putCells id 0 (flatK (fun a => enc (f a)) d.sz zs.toArray) cur).toList.take (n * d.sz), ⟨?_, .inr ⟨g, cap, _, ?_, hb, hblk, ?_, hcm, ?_, ?_⟩⟩, ?_, ?_⟩
    · simp [putCells, hcs, hn]; rw [Nat.min_eq_left hnc]
    · simp [hn]
    · simp [hn]; exact hnc
    · simp [putCells, hcs]
    · simp [hn]
    · simp [putCells, hcs, hn]; rw [Nat.min_eq_left hnc]
    · intro j p hp
      obtain ⟨hj, hpe⟩ := List.getElem?_eq_some_iff.1 hp
      have hj' : j < zs.length := by simpa using hj
      have hpz : p = f zs[j] := by rw [← hpe]; simp
      have : (((putCells id 0 (flatK (fun a => enc (f a)) d.sz zs.toArray) cur).toList.take (n * d.sz)).drop (j * d.sz)).take d.sz = enc p := by
        apply List.ext_getElem?
        intro t
        rw [List.getElem?_take]
        by_cases ht : t < d.sz
        · rw [if_pos ht, List.getElem?_drop, List.getElem?_take]
          have hb2 : j * d.sz + t < n * d.sz := by
            have : (j + 1) * d.sz ≤ n * d.sz := Nat.mul_le_mul_right _ (by omega)
            rw [Nat.succ_mul] at this; omega
          rw [if_pos hb2, Array.getElem?_toList, hcell _ hb2]
          have h1 : (j * d.sz + t) / d.sz = j := by rw [Nat.mul_comm, Nat.mul_add_div (by omega), Nat.div_eq_of_lt ht, Nat.add_zero]
          have h2 : (j * d.sz + t) % d.sz = t := by rw [Nat.mul_comm, Nat.mul_add_mod, Nat.mod_eq_of_lt ht]
          rw [h1, h2, hpz]
          have hl := F.len (f zs[j])
          simp only [getElem!_def, List.getElem?_toArray, List.getElem?_eq_getElem hj']
          rw [List.getElem?_eq_getElem (by omega)]
        · rw [if_neg ht, List.getElem?_eq_none (by have := F.len p; omega)]
      rw [this]
      exact F.toM _ _ _ _

/-- slices.SortFunc over a row of the call's own. Pr: what the elements are known to be. -/
theorem sorts {P : Program} {ρ : Ren} (L : SlLaysF0.n6 P ρ) {d : Kd S} {enc : S → List Value} (F : Flat d enc) (aE : ∀ w, (isAgg (ρ.t 24)).run P w = .ok true w) (zE : ∀ w, (Go.sizeOf (ρ.t 24)).run P w = .ok d.sz w)
    (Pr : S → Prop) (cf : S → S → Int) (g : Nat) (eg : ∀ args w, (callFunc g args).run P w = .ok (.enter g args) w)
    (hcmp : ∀ x y, Pr x → Pr y → ∀ W, Calls P g #[.agg (enc x).toArray, .agg (enc y).toArray] W fun e w' => e = .returned (.int .i64 (cf x y)) ∧ ∃ q os', w' = grow (W.drewN q) os')
    (irr : ∀ x, Pr x → ¬ cf x x < 0) (tr : ∀ x y z, Pr x → Pr y → Pr z → cf x y < 0 → cf y z < 0 → cf x z < 0) (ntr : ∀ x y z, Pr x → Pr y → Pr z → ¬ cf x y < 0 → ¬ cf y z < 0 → ¬ cf x z < 0)
    {e : Nat} {base : Nat} {ok : Nat → Prop} {v : Value} {xs : List S} (hPr : ∀ x ∈ xs, Pr x) (w : World) (hsz : xs.length < 4611686018427387904) (h : d.R e w base ok v xs) :
    Calls P (ρ.f 6) #[v, .func (.func g) #[] #[]] w fun e' w' => e' = .returned (.tuple #[]) ∧ ∃ ys : List S, ys.Perm xs ∧ ys.Pairwise (fun x y => ¬ cf y x < 0) ∧ d.R e w' base ok v ys ∧ w.grownBy w' v.ownBlock := by
  cases hxs : xs with
  | nil =>
    subst hxs
    obtain ⟨A, c, hv⟩ := Kd.R_slice h
    rw [hv]
    exact (AnyF.slices_SortFunc_none L A c _ w).mono fun _ _ ⟨he, hw⟩ => ⟨he, [], List.Perm.refl _, List.Pairwise.nil, by subst hw; rw [← hv]; exact h, by subst hw; exact World.grownBy.refl _ _⟩
  | cons x0 xr =>
    rw [← hxs]
    haveI : Inhabited {x : S // Pr x} := ⟨⟨x0, hPr x0 (by rw [hxs]; exact List.mem_cons_self)⟩⟩
    let zs : List {x : S // Pr x} := xs.attach.map fun x => ⟨x.1, hPr x.1 x.2⟩
    have hzs : zs.map Subtype.val = xs := by simp [zs]
    have hzl : zs.length = xs.length := by simp [zs]
    obtain ⟨h0, inner, ho, hr⟩ := h
    have hpos : 0 < xs.length := by rw [hxs]; simp
    obtain ⟨gb, cap, hv, hge, hlt⟩ := ho.form hpos
    subst hv
    have hH : HoldsK (fun a : {x : S // Pr x} => enc a.1) d.sz w gb 0 zs.toArray := reps_holds F Subtype.val (fun x cs hm => F.ofM _ _ _ x cs hm) ho zs hzl (by rw [hzs]; exact hr)
    have hO : SWO (ltOf fun x y : {x : S // Pr x} => cf x.1 y.1) := by
      refine ⟨fun x => ?_, fun x y z => ?_, fun x y z => ?_⟩
      · simpa [ltOf] using irr x.1 x.2
      · simpa [ltOf] using tr x.1 y.1 z.1 x.2 y.2 z.2
      · have := ntr x.1 y.1 z.1 x.2 y.2 z.2
        simp only [ltOf, decide_eq_false_iff_not]
        exact this
    have hC : CmpLays P g #[] (fun a : {x : S // Pr x} => enc a.1) d.sz (fun x y => cf x.1 y.1) gb 0 zs.toArray.size w := fun m os dk _ x y => hcmp x.1 y.1 x.2 y.2 _
    have hcall := AnyQ.slices_SortFunc L d.sz aE zE (fun a : {x : S // Pr x} => enc a.1) (fun a => F.len a.1) (fun a => F.one a.1) (fun x y => cf x.1 y.1) hO g #[] gb 0 cap zs.toArray w eg hC hH hlt (by simpa [hzl] using hsz)
    have hzs2 : zs.toArray.size = xs.length := by simp [hzl]
    rw [hzs2] at hcall
    refine hcall.mono fun e' w' ⟨he, d', n, os, hp, hs, hw⟩ => ⟨he, d'.toList.map Subtype.val, ?_, ?_, ?_, ?_⟩
    · have hps := hp.2.2
      have hd : d'.size = xs.length := by rw [hp.1, hzs2]
      rw [show d'.extract 0 xs.length = d' by rw [← hd]; simp, show zs.toArray.extract 0 xs.length = zs.toArray by rw [← hzs2]; simp] at hps
      have := hps.map Subtype.val
      rw [show (zs.toArray.toList.map Subtype.val) = xs by simpa using hzs] at this
      exact this
    · rw [List.pairwise_map, List.pairwise_iff_getElem]
      intro i j hi hj hij
      have hd : d'.size = xs.length := by rw [hp.1, hzs2]
      have hi' : i < d'.size := by simpa using hi
      have hj' : j < d'.size := by simpa using hj
      have := hs i j (Nat.zero_le _) hij (by omega)
      simp only [ltOf, decide_eq_false_iff_not] at this
      rw [getElem!_pos d' i hi', getElem!_pos d' j hj'] at this
      simpa using this
    · refine ⟨h0, ?_⟩
      have hd : d'.toList.length = xs.length := by rw [Array.length_toList, hp.1, hzs2]
      have := owns_sorted (m := n) (os := os) F (Subtype.val (p := Pr)) ho d'.toList hd base (fun k => ok k ∧ some k ≠ (Value.slice (some ⟨gb, 0, none⟩) xs.length cap).ownBlock)
      rw [Array.toArray_toList] at this
      subst hw
      exact this
    · subst hw
      exact grown_sorted w gb n d' os
end Go.Proofs.Ytbmcddmhfnnccaa.SortKit
