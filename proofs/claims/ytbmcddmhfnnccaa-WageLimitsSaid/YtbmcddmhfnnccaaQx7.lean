-- Printed by wip/xprint.py over the translation, with contracts proved by hand among them. Lean checks it.
import Derived.Test.YtbmcddmhfnnccaaQx0
import Derived.Test.YtbmcddmhfnnccaaQx3
import Derived.Test.YtbmcddmhfnnccaaQx5
import Derived.Test.YtbmcddmhfnnccaaQx6
namespace Go.Proofs.Ytbmcddmhfnnccaa.Q
open Go.RowKit Go.Proofs.YtbmcddmhfnnccaaW.PrintWords Go.Proofs.YtbmcddmhfnnccaaW.PrintLast Go.Proofs.YtbmcddmhfnnccaaW.PrintMore
attribute [local go_sem] max2_int min2_int max_two min_two max_three min_three max_four min_four   -- for this text's walks alone
set_option linter.unusedVariables false
set_option linter.unusedSimpArgs false

attribute [local go_sem high] eqA52
/-! ### wage_Of: function 28 -/
section OfExt
open Go.Proofs.Ytbmcddmhfnnccaa.MapKit Go.Proofs.Ytbmcddmhfnnccaa.ListKit
theorem of_1 (x : S31) (W : World) : Calls Try.prog 39 #[.agg #[.string x.f0, .int .i64 x.f1, .bool x.f2, .bool x.f3, .bool x.f4, .int .i64 x.f5]] W fun e w' => e = .returned (.bool (true)) ∧ Below W.heap.size W w' := by
  have HB := Aside0.mk (Below.refl W.heap.size W)
  go_enter Try.func39, Try.ntmps39
  go_wp2_with (first
    | ((with_reducible refine gate_dst (N := 1) rfl ?_); refine box_event ?hg (N := 1) ?hd (cs := #[.string x.f0, .int .i64 x.f1, .bool x.f2, .bool x.f3, .bool x.f4, .int .i64 x.f5]) (t := 31) ?hr ?_; (case hd => rfl); (case hg => rfl); (case hr => first | (go_simp; done) | (go_simp; rfl)); intro gb2 hg w7 hbox hb; have n0_ := Aside0.mk (below_step HB.out hb); clear HB; have HB := n0_; clear n0_ hb hg; have hz0 : w7.cell? ⟨gb2, 0, none⟩ = some (.string x.f0) := (blk_cell hbox 0).trans rfl; have hz1 : w7.cell? ⟨gb2, 1, none⟩ = some (.int .i64 x.f1) := (blk_cell hbox 1).trans rfl; have hz2 : w7.cell? ⟨gb2, 2, none⟩ = some (.bool x.f2) := (blk_cell hbox 2).trans rfl; have hz3 : w7.cell? ⟨gb2, 3, none⟩ = some (.bool x.f3) := (blk_cell hbox 3).trans rfl; have hz4 : w7.cell? ⟨gb2, 4, none⟩ = some (.bool x.f4) := (blk_cell hbox 4).trans rfl; have hz5 : w7.cell? ⟨gb2, 5, none⟩ = some (.int .i64 x.f5) := (blk_cell hbox 5).trans rfl; have hf0 := blk_frozen hbox 0; have hf1 := blk_frozen hbox 1; have hf2 := blk_frozen hbox 2; have hf3 := blk_frozen hbox 3; have hf4 := blk_frozen hbox 4; have hf5 := blk_frozen hbox 5; clear hbox))
  go_ret
  exact ⟨by first | rfl | (simp [*] <;> rfl), HB.out⟩
theorem of_2 (x : S31) (W : World) : Calls Try.prog 40 #[.agg #[.string x.f0, .int .i64 x.f1, .bool x.f2, .bool x.f3, .bool x.f4, .int .i64 x.f5]] W fun e w' => e = .returned (.bool (x.f1 == 1)) ∧ Below W.heap.size W w' := by
  have HB := Aside0.mk (Below.refl W.heap.size W)
  go_enter Try.func40, Try.ntmps40
  go_wp2_with (first
    | ((with_reducible refine gate_dst (N := 1) rfl ?_); refine box_event ?hg (N := 1) ?hd (cs := #[.string x.f0, .int .i64 x.f1, .bool x.f2, .bool x.f3, .bool x.f4, .int .i64 x.f5]) (t := 31) ?hr ?_; (case hd => rfl); (case hg => rfl); (case hr => first | (go_simp; done) | (go_simp; rfl)); intro gb2 hg w7 hbox hb; have n0_ := Aside0.mk (below_step HB.out hb); clear HB; have HB := n0_; clear n0_ hb hg; have hz0 : w7.cell? ⟨gb2, 0, none⟩ = some (.string x.f0) := (blk_cell hbox 0).trans rfl; have hz1 : w7.cell? ⟨gb2, 1, none⟩ = some (.int .i64 x.f1) := (blk_cell hbox 1).trans rfl; have hz2 : w7.cell? ⟨gb2, 2, none⟩ = some (.bool x.f2) := (blk_cell hbox 2).trans rfl; have hz3 : w7.cell? ⟨gb2, 3, none⟩ = some (.bool x.f3) := (blk_cell hbox 3).trans rfl; have hz4 : w7.cell? ⟨gb2, 4, none⟩ = some (.bool x.f4) := (blk_cell hbox 4).trans rfl; have hz5 : w7.cell? ⟨gb2, 5, none⟩ = some (.int .i64 x.f5) := (blk_cell hbox 5).trans rfl; have hf0 := blk_frozen hbox 0; have hf1 := blk_frozen hbox 1; have hf2 := blk_frozen hbox 2; have hf3 := blk_frozen hbox 3; have hf4 := blk_frozen hbox 4; have hf5 := blk_frozen hbox 5; clear hbox))
  go_ret
  exact ⟨by first | rfl | (simp [*] <;> rfl), HB.out⟩
theorem of_3 (x : S31) (W : World) : Calls Try.prog 41 #[.agg #[.string x.f0, .int .i64 x.f1, .bool x.f2, .bool x.f3, .bool x.f4, .int .i64 x.f5]] W fun e w' => e = .returned (.bool (x.f2)) ∧ Below W.heap.size W w' := by
  have HB := Aside0.mk (Below.refl W.heap.size W)
  go_enter Try.func41, Try.ntmps41
  go_wp2_with (first
    | ((with_reducible refine gate_dst (N := 1) rfl ?_); refine box_event ?hg (N := 1) ?hd (cs := #[.string x.f0, .int .i64 x.f1, .bool x.f2, .bool x.f3, .bool x.f4, .int .i64 x.f5]) (t := 31) ?hr ?_; (case hd => rfl); (case hg => rfl); (case hr => first | (go_simp; done) | (go_simp; rfl)); intro gb2 hg w7 hbox hb; have n0_ := Aside0.mk (below_step HB.out hb); clear HB; have HB := n0_; clear n0_ hb hg; have hz0 : w7.cell? ⟨gb2, 0, none⟩ = some (.string x.f0) := (blk_cell hbox 0).trans rfl; have hz1 : w7.cell? ⟨gb2, 1, none⟩ = some (.int .i64 x.f1) := (blk_cell hbox 1).trans rfl; have hz2 : w7.cell? ⟨gb2, 2, none⟩ = some (.bool x.f2) := (blk_cell hbox 2).trans rfl; have hz3 : w7.cell? ⟨gb2, 3, none⟩ = some (.bool x.f3) := (blk_cell hbox 3).trans rfl; have hz4 : w7.cell? ⟨gb2, 4, none⟩ = some (.bool x.f4) := (blk_cell hbox 4).trans rfl; have hz5 : w7.cell? ⟨gb2, 5, none⟩ = some (.int .i64 x.f5) := (blk_cell hbox 5).trans rfl; have hf0 := blk_frozen hbox 0; have hf1 := blk_frozen hbox 1; have hf2 := blk_frozen hbox 2; have hf3 := blk_frozen hbox 3; have hf4 := blk_frozen hbox 4; have hf5 := blk_frozen hbox 5; clear hbox))
  go_ret
  exact ⟨by first | rfl | (simp [*] <;> rfl), HB.out⟩
theorem of_4 (x : S31) (W : World) : Calls Try.prog 42 #[.agg #[.string x.f0, .int .i64 x.f1, .bool x.f2, .bool x.f3, .bool x.f4, .int .i64 x.f5]] W fun e w' => e = .returned (.bool (x.f3)) ∧ Below W.heap.size W w' := by
  have HB := Aside0.mk (Below.refl W.heap.size W)
  go_enter Try.func42, Try.ntmps42
  go_wp2_with (first
    | ((with_reducible refine gate_dst (N := 1) rfl ?_); refine box_event ?hg (N := 1) ?hd (cs := #[.string x.f0, .int .i64 x.f1, .bool x.f2, .bool x.f3, .bool x.f4, .int .i64 x.f5]) (t := 31) ?hr ?_; (case hd => rfl); (case hg => rfl); (case hr => first | (go_simp; done) | (go_simp; rfl)); intro gb2 hg w7 hbox hb; have n0_ := Aside0.mk (below_step HB.out hb); clear HB; have HB := n0_; clear n0_ hb hg; have hz0 : w7.cell? ⟨gb2, 0, none⟩ = some (.string x.f0) := (blk_cell hbox 0).trans rfl; have hz1 : w7.cell? ⟨gb2, 1, none⟩ = some (.int .i64 x.f1) := (blk_cell hbox 1).trans rfl; have hz2 : w7.cell? ⟨gb2, 2, none⟩ = some (.bool x.f2) := (blk_cell hbox 2).trans rfl; have hz3 : w7.cell? ⟨gb2, 3, none⟩ = some (.bool x.f3) := (blk_cell hbox 3).trans rfl; have hz4 : w7.cell? ⟨gb2, 4, none⟩ = some (.bool x.f4) := (blk_cell hbox 4).trans rfl; have hz5 : w7.cell? ⟨gb2, 5, none⟩ = some (.int .i64 x.f5) := (blk_cell hbox 5).trans rfl; have hf0 := blk_frozen hbox 0; have hf1 := blk_frozen hbox 1; have hf2 := blk_frozen hbox 2; have hf3 := blk_frozen hbox 3; have hf4 := blk_frozen hbox 4; have hf5 := blk_frozen hbox 5; clear hbox))
  go_ret
  exact ⟨by first | rfl | (simp [*] <;> rfl), HB.out⟩
theorem of_5 (x : S31) (W : World) : Calls Try.prog 43 #[.agg #[.string x.f0, .int .i64 x.f1, .bool x.f2, .bool x.f3, .bool x.f4, .int .i64 x.f5]] W fun e w' => e = .returned (.bool (x.f4)) ∧ Below W.heap.size W w' := by
  have HB := Aside0.mk (Below.refl W.heap.size W)
  go_enter Try.func43, Try.ntmps43
  go_wp2_with (first
    | ((with_reducible refine gate_dst (N := 1) rfl ?_); refine box_event ?hg (N := 1) ?hd (cs := #[.string x.f0, .int .i64 x.f1, .bool x.f2, .bool x.f3, .bool x.f4, .int .i64 x.f5]) (t := 31) ?hr ?_; (case hd => rfl); (case hg => rfl); (case hr => first | (go_simp; done) | (go_simp; rfl)); intro gb2 hg w7 hbox hb; have n0_ := Aside0.mk (below_step HB.out hb); clear HB; have HB := n0_; clear n0_ hb hg; have hz0 : w7.cell? ⟨gb2, 0, none⟩ = some (.string x.f0) := (blk_cell hbox 0).trans rfl; have hz1 : w7.cell? ⟨gb2, 1, none⟩ = some (.int .i64 x.f1) := (blk_cell hbox 1).trans rfl; have hz2 : w7.cell? ⟨gb2, 2, none⟩ = some (.bool x.f2) := (blk_cell hbox 2).trans rfl; have hz3 : w7.cell? ⟨gb2, 3, none⟩ = some (.bool x.f3) := (blk_cell hbox 3).trans rfl; have hz4 : w7.cell? ⟨gb2, 4, none⟩ = some (.bool x.f4) := (blk_cell hbox 4).trans rfl; have hz5 : w7.cell? ⟨gb2, 5, none⟩ = some (.int .i64 x.f5) := (blk_cell hbox 5).trans rfl; have hf0 := blk_frozen hbox 0; have hf1 := blk_frozen hbox 1; have hf2 := blk_frozen hbox 2; have hf3 := blk_frozen hbox 3; have hf4 := blk_frozen hbox 4; have hf5 := blk_frozen hbox 5; clear hbox))
  go_ret
  exact ⟨by first | rfl | (simp [*] <;> rfl), HB.out⟩

def findW (l : List S31) (c : ByteArray) : Option S31 := l.find? (fun w => decide (w.f0.toList = c.toList))
theorem find_loop (c : ByteArray) (l0 : List S31) (hl : l0.length ≤ 1000000) : ∀ (suf pre : List S31) (k : Nat), l0 = pre ++ suf → suf.length ≤ k → wage_Find.l0 (k + 1) c l0 (l0.length : Int) (pre.length : Int) = some (match findW suf c with | some w => (w.f0, w.f1, w.f2, w.f3, w.f4, w.f5, true) | none => ((⟨#[]⟩ : ByteArray), 0, false, false, false, 0, false)) := by
  intro suf
  induction suf with
  | nil =>
    intro pre k he hk
    simp only [wage_Find.l0]
    rw [if_neg (by rw [he]; simp)]
    rfl
  | cons p suf ih =>
    intro pre k he hk
    rw [List.length_cons] at hk
    obtain ⟨k, rfl⟩ : ∃ j, k = j + 1 := ⟨k - 1, by omega⟩
    have hlen : l0.length = pre.length + suf.length + 1 := by rw [he]; simp; omega
    have hrd : rd_T31 l0 (pre.length : Int) = p := by rw [he]; simp [rd_T31, List.getD_eq_getElem?_getD]
    rw [wage_Find.l0, if_pos (by omega), if_pos (by omega), if_pos (by omega), hrd]
    by_cases h : p.f0.toList = c.toList
    · rw [if_pos h]
      have : findW (p :: suf) c = some p := by unfold findW; rw [List.find?_cons_of_pos]; simpa using h
      rw [this]
    · rw [if_neg h]
      have : findW (p :: suf) c = findW suf c := by unfold findW; rw [List.find?_cons_of_neg]; simpa using h
      rw [this]
      have e : wrap64 ((pre.length : Int) + 1) = ((pre ++ [p]).length : Int) := by unfold wrap64; simp; omega
      rw [e]
      exact ih (pre ++ [p]) k (by rw [he]; simp) (by omega)
theorem find_eq (l : List S31) (c : ByteArray) (k : Nat) (hl : l.length ≤ 1000000) (hk : l.length < k) : wage_Find.f k l c = some (match findW l c with | some w => (w.f0, w.f1, w.f2, w.f3, w.f4, w.f5, true) | none => ((⟨#[]⟩ : ByteArray), 0, false, false, false, 0, false)) := by
  unfold wage_Find.f
  obtain ⟨k, rfl⟩ : ∃ j, k = j + 1 := ⟨k - 1, by omega⟩
  exact find_loop c l hl l [] k rfl (by omega)
def partOf (g : S31 → Bool) (l : List S31) (p : Str × Int) : Int := match findW l p.1.s with | some w => if g w = true then p.2 else 0 | none => 0
/-- The sum of the amounts whose wage types count. -/
def sumOf (g : S31 → Bool) (l : List S31) (m : List (Str × Int)) : Int := wrap64 ((m.map (partOf g l)).sum)
theorem wrap_add (a b : Int) : wrap64 (wrap64 a + b) = wrap64 (a + b) := by unfold wrap64; omega
theorem sumOf_nil (g : S31 → Bool) (l : List S31) : sumOf g l [] = 0 := by unfold sumOf wrap64; simp
theorem sumOf_snoc (g : S31 → Bool) (l : List S31) (m : List (Str × Int)) (p : Str × Int) : sumOf g l (m ++ [p]) = wrap64 (sumOf g l m + partOf g l p) := by
  unfold sumOf
  rw [List.map_append, List.sum_append, wrap_add]
  simp
theorem isum_perm {a b : List Int} (h : a.Perm b) : a.sum = b.sum := by
  induction h with
  | nil => rfl
  | cons x _ ih => rw [List.sum_cons, List.sum_cons, ih]
  | swap x y l => simp only [List.sum_cons]; omega
  | trans _ _ h1 h2 => rw [h1, h2]
theorem sumOf_perm (g : S31 → Bool) (l : List S31) {m m' : List (Str × Int)} (h : m.Perm m') : sumOf g l m = sumOf g l m' := by
  unfold sumOf
  rw [isum_perm (h.map (partOf g l))]
def lacks (l : List S31) (m : List (Str × Int)) : Bool := m.any fun p => (findW l p.1.s).isNone
def g1 (_ : S31) : Bool := true
def g2 (x : S31) : Bool := x.f1 == 1
def g3 (x : S31) : Bool := x.f2
def g4 (x : S31) : Bool := x.f3
def g5 (x : S31) : Bool := x.f4
def ofPure (l : List S31) (m : List (Str × Int)) : Int × Int × Int × Int × Int × Int :=
  if lacks l m = true then (0, 0, 0, 0, 0, 16) else
  if (amt (sumOf g1 l m) && (amt (sumOf g2 l m) && (amt (sumOf g3 l m) && (amt (sumOf g4 l m) && amt (sumOf g5 l m))))) = true then (sumOf g1 l m, sumOf g2 l m, sumOf g3 l m, sumOf g4 l m, sumOf g5 l m, 0) else (0, 0, 0, 0, 0, 4)
def wage_Of.f (k : Nat) (l0 : List S31) (l1 : List S44) : Option (Int × Int × Int × Int × Int × Int) :=
  (wage_Valid.f k l0).bind fun v => if v = true then (wage_sums.f k l1).bind (fun b => if b.2 = 0 then (if l0.length < k ∧ l0.length ≤ 1000000 then some (ofPure l0 b.1) else none) else some (0, 0, 0, 0, 0, b.2)) else some (0, 0, 0, 0, 0, 1)
theorem wage_Of.mono : ∀ a0 a1 k, LeO (wage_Of.f k a0 a1) (wage_Of.f (k + 1) a0 a1) := by
  intro a0 a1 k
  unfold wage_Of.f
  refine LeO.bind (wage_Valid.mono _ _) fun v => ?_
  by_cases hv : v = true
  · rw [if_pos hv, if_pos hv]
    refine LeO.bind (wage_sums.mono _ _) fun b => ?_
    by_cases hb : b.2 = 0
    · rw [if_pos hb, if_pos hb]
      by_cases hk : a0.length < k ∧ a0.length ≤ 1000000
      · rw [if_pos hk, if_pos ⟨by omega, hk.2⟩]; exact LeO.refl _
      · rw [if_neg hk]; exact LeO.none _
    · rw [if_neg hb, if_neg hb]; exact LeO.refl _
  · rw [if_neg hv, if_neg hv]; exact LeO.refl _
theorem gen_world {P : Program} {ops : Array Oper} {l : List Oper} {a : Act} {Q : Exit → Act → World → Prop} {w : World} (S : World → Prop) (hS : S w) (h : ∀ w', S w' → wpList P ops Q l a w') : wpList P ops Q l a w := h w hS
theorem lit_event {P : Program} {ops : Array Oper} {rest : List Oper} {o : Oper} {a : Act} {Q : Exit → Act → World → Prop} {W : World} (hgd : o.guard = none) {N : Tmp} (_hd : o.dst = some N) {cs : Array Value} {t : TypeId} {n : Nat}
    (hrun : (execOp a.eval o).run P W = .ok (.value (.slice (some ⟨W.heap.size, 0, none⟩) n n)) (W.alloc (.cells cs t)))
    (h : ∀ g, g = W.heap.size → ∀ w1, w1.heap[g]? = some (.cells cs t (0, 0)) → Below W.heap.size W w1 → wpList P ops Q rest (a.put o.dst (.slice (some ⟨g, 0, none⟩) n n)) w1) : wpList P ops Q (o :: rest) a W :=
  Kd.event_run hgd hrun (h _ rfl _ (blk_new W _) (below_alloc (Below.refl _ _) _))
theorem set_grown (w : World) (p : Addr) (u : Value) : w.grownBy (w.setCell p u) (some p.block) := ⟨rfl, rfl, rfl, by simp, fun k hk hk2 => Below.heap_setCell w p u k (fun e => hk2 (by rw [e]))⟩
theorem rng_far {w : World} {b r n : Nat} {m done : List (Str × Int)} (h : wageMK.Ranges w b r n m done) {p : Addr} (h1 : b ≠ p.block) (h2 : r ≠ p.block) (u : Value) : wageMK.Ranges (w.setCell p u) b r n m done := (h.kept (set_grown w p u) (fun e => h1 (Option.some.inj e)) (fun e => h2 (Option.some.inj e))).1
theorem left_far {w : World} {b r n : Nat} {m done : List (Str × Int)} (h : wageMK.Ranges w b r n m done) {p : Addr} (h1 : b ≠ p.block) (h2 : r ≠ p.block) (u : Value) : (w.setCell p u).rangeLeft b r = w.rangeLeft b r := (h.kept (set_grown w p u) (fun e => h1 (Option.some.inj e)) (fun e => h2 (Option.some.inj e))).2
theorem blkOf_far {w : World} {g : Nat} {o : Obj} (h : w.heap[g]? = some o) {p : Addr} (hne : g ≠ p.block) (u : Value) : (w.setCell p u).heap[g]? = some o := (Below.heap_setCell w p u g hne).trans h
theorem any_false {l : List S31} {m : List (Str × Int)} (h : ∀ p ∈ m, (findW l p.1.s).isSome = true) : lacks l m = false := by
  unfold lacks
  rw [List.any_eq_false]
  intro p hp
  have := h p hp
  cases hf : findW l p.1.s with
  | none => rw [hf] at this; cases this
  | some x => simp
theorem sumOf_step (g : S31 → Bool) (l : List S31) (m : List (Str × Int)) (x : Str) (c : Int) (y : S31) (hf : some y = findW l x.s) : (if g y = true then wrap64 (sumOf g l m + c) else sumOf g l m) = sumOf g l (m ++ [(x, c)]) := by
  rw [sumOf_snoc]
  unfold partOf
  rw [← hf]
  simp only []
  by_cases h : g y = true
  · rw [if_pos h, if_pos h]
  · rw [if_neg h, if_neg h, Int.add_zero]
    unfold sumOf
    unfold wrap64; omega
theorem ofc_1 (x : S31) (b : Bool) (h : b = g1 x) (W : World) : Calls Try.prog 39 #[.agg #[.string x.f0, .int .i64 x.f1, .bool x.f2, .bool x.f3, .bool x.f4, .int .i64 x.f5]] W fun e w' => e = .returned (.bool b) ∧ Below W.heap.size W w' := by subst h; exact of_1 x W
theorem ofc_2 (x : S31) (b : Bool) (h : b = g2 x) (W : World) : Calls Try.prog 40 #[.agg #[.string x.f0, .int .i64 x.f1, .bool x.f2, .bool x.f3, .bool x.f4, .int .i64 x.f5]] W fun e w' => e = .returned (.bool b) ∧ Below W.heap.size W w' := by subst h; exact of_2 x W
theorem ofc_3 (x : S31) (b : Bool) (h : b = g3 x) (W : World) : Calls Try.prog 41 #[.agg #[.string x.f0, .int .i64 x.f1, .bool x.f2, .bool x.f3, .bool x.f4, .int .i64 x.f5]] W fun e w' => e = .returned (.bool b) ∧ Below W.heap.size W w' := by subst h; exact of_3 x W
theorem ofc_4 (x : S31) (b : Bool) (h : b = g4 x) (W : World) : Calls Try.prog 42 #[.agg #[.string x.f0, .int .i64 x.f1, .bool x.f2, .bool x.f3, .bool x.f4, .int .i64 x.f5]] W fun e w' => e = .returned (.bool b) ∧ Below W.heap.size W w' := by subst h; exact of_4 x W
theorem ofc_5 (x : S31) (b : Bool) (h : b = g5 x) (W : World) : Calls Try.prog 43 #[.agg #[.string x.f0, .int .i64 x.f1, .bool x.f2, .bool x.f3, .bool x.f4, .int .i64 x.f5]] W fun e w' => e = .returned (.bool b) ∧ Below W.heap.size W w' := by subst h; exact of_5 x W
theorem amtOf_eq (n : Int) (b : Bool) (h : b = amt n) : wage_amount.f n = some b := by
  subst h
  unfold wage_amount.f amt
  by_cases h : n ≥ (-1000000000)
  · rw [if_pos h]; congr 1; exact decide_eq_decide.2 ⟨fun h2 => ⟨h, h2⟩, fun h2 => h2.2⟩
  · rw [if_neg h]; congr 1; exact (decide_eq_false (fun h2 => h h2.1)).symm
def cellsAt (s0 s1 s2 s3 s4 u0 u1 u2 u3 u4 : Int) : Nat → Array Value
  | 0 => #[.func (.func 39) #[] #[], .int .i64 s0, .func (.func 40) #[] #[], .int .i64 s1, .func (.func 41) #[] #[], .int .i64 s2, .func (.func 42) #[] #[], .int .i64 s3, .func (.func 43) #[] #[], .int .i64 s4]
  | 1 => #[.func (.func 39) #[] #[], .int .i64 u0, .func (.func 40) #[] #[], .int .i64 s1, .func (.func 41) #[] #[], .int .i64 s2, .func (.func 42) #[] #[], .int .i64 s3, .func (.func 43) #[] #[], .int .i64 s4]
  | 2 => #[.func (.func 39) #[] #[], .int .i64 u0, .func (.func 40) #[] #[], .int .i64 u1, .func (.func 41) #[] #[], .int .i64 s2, .func (.func 42) #[] #[], .int .i64 s3, .func (.func 43) #[] #[], .int .i64 s4]
  | 3 => #[.func (.func 39) #[] #[], .int .i64 u0, .func (.func 40) #[] #[], .int .i64 u1, .func (.func 41) #[] #[], .int .i64 u2, .func (.func 42) #[] #[], .int .i64 s3, .func (.func 43) #[] #[], .int .i64 s4]
  | 4 => #[.func (.func 39) #[] #[], .int .i64 u0, .func (.func 40) #[] #[], .int .i64 u1, .func (.func 41) #[] #[], .int .i64 u2, .func (.func 42) #[] #[], .int .i64 u3, .func (.func 43) #[] #[], .int .i64 s4]
  | _ => #[.func (.func 39) #[] #[], .int .i64 u0, .func (.func 40) #[] #[], .int .i64 u1, .func (.func 41) #[] #[], .int .i64 u2, .func (.func 42) #[] #[], .int .i64 u3, .func (.func 43) #[] #[], .int .i64 u4]
set_option maxHeartbeats 8000000 in
set_option maxRecDepth 100000 in
theorem wage_Of.calls (k : Nat) (A0 : Option Addr) (c0 : Nat) (l0 : List S31) (A1 : Option Addr) (c1 : Nat) (l1 : List S44) (r1 r2 r3 r4 r5 r6 : Int) (w : World) (hr0 : Kd.C k31 w A0 l0.length l0) (hc0 : l0.length ≤ c0) (hr1 : Kd.C k44 w A1 l1.length l1) (hc1 : l1.length ≤ c1) (h : wage_Of.f k l0 l1 = some (r1, r2, r3, r4, r5, r6)) :
    Calls Try.prog 28 #[.slice A0 l0.length c0, .slice A1 l1.length c1] w fun e w' => e = .returned (.tuple #[.agg #[.int .i64 r1, .int .i64 r2, .int .i64 r3, .int .i64 r4, .int .i64 r5], .int .i64 r6]) ∧ Below w.heap.size w w' := by
  have hu31 := Try.underlying31
  have hu52 := Try.underlying52
  have HR0 := Aside0.mk hr0
  have HC0 := Aside0.mk hc0
  have HR1 := Aside0.mk hr1
  have HC1 := Aside0.mk hc1
  clear hr0 hc0 hr1 hc1
  have HB := Aside0.mk (Below.refl w.heap.size w)
  unfold wage_Of.f at h
  obtain ⟨v, A10, h⟩ := Option.bind_eq_some_iff.1 h
  have A1_ := Aside0.mk A10
  clear A10
  cases v with
  | false =>
    simp only [Bool.false_eq_true, if_false, Option.some.injEq, Prod.mk.injEq] at h
    obtain ⟨rfl, rfl, rfl, rfl, rfl, rfl⟩ := h
    go_enter Try.func28, Try.ntmps28
    go_wp2_with (first
      | ((with_reducible refine gate_dst (N := 4) rfl ?_); refine box_event ?hg (N := 4) ?hd (cs := #[.int .i64 0, .int .i64 0, .int .i64 0, .int .i64 0, .int .i64 0]) (t := 52) ?hr ?_; (case hd => rfl); (case hg => rfl); (case hr => first | (go_simp; done) | (go_simp; rfl)); intro g0 hg w7 hbox hb; have n0_ := Aside0.mk (below_step HB.out hb); have GE0 := Aside0.mk ((by rw [hg]; exact below_size HB.out) : w.heap.size ≤ g0); have BK0 := Aside0.mk hbox; clear HB; have HB := n0_; clear n0_ hb hg hbox)
      | ((with_reducible refine gate_callee (f := 15) rfl ?_); refine goesL_ (some 17) rfl rfl Try.func15 (by kernel_rfl) rfl #[.slice A0 l0.length c0] rfl (by (try simp only [List.map_toArray, List.map_cons, List.map_nil]); first | done | rfl) ?_; (with_reducible refine (wage_Valid.calls k _ _ l0 false _ ?side1 ?side2 A1_.out).mono ?_); (case side1 => exact Kd.C_below HR0.out HB.out); (case side2 => exact HC0.out); rintro e w4 ⟨rfl, hb⟩; refine ⟨_, rfl, ?_⟩; have n1_ := Aside0.mk (blk_below BK0.out hb); have n0_ := Aside0.mk (below_step HB.out hb); clear HB BK0; have HB := n0_; have BK0 := n1_; clear n0_ n1_ hb; have hz0 : w4.cell? ⟨g0, 0, none⟩ = some (.int .i64 0) := (blk_cell BK0.out 0).trans rfl; have hf0 := blk_frozen BK0.out 0; have hz1 : w4.cell? ⟨g0, 1, none⟩ = some (.int .i64 0) := (blk_cell BK0.out 1).trans rfl; have hf1 := blk_frozen BK0.out 1; have hz2 : w4.cell? ⟨g0, 2, none⟩ = some (.int .i64 0) := (blk_cell BK0.out 2).trans rfl; have hf2 := blk_frozen BK0.out 2; have hz3 : w4.cell? ⟨g0, 3, none⟩ = some (.int .i64 0) := (blk_cell BK0.out 3).trans rfl; have hf3 := blk_frozen BK0.out 3; have hz4 : w4.cell? ⟨g0, 4, none⟩ = some (.int .i64 0) := (blk_cell BK0.out 4).trans rfl; have hf4 := blk_frozen BK0.out 4))
    refine bodyPost_ret (results_ct rfl _ _ g0 52 #[.int .i64 0, .int .i64 0, .int .i64 0, .int .i64 0, .int .i64 0] (0, 0) _ rfl (by refine blk_put (cs := #[.int .i64 0, .int .i64 0, .int .i64 0, .int .i64 0, .int .i64 0]) ?_ 4 _ rfl; refine blk_put (cs := #[.int .i64 0, .int .i64 0, .int .i64 0, .int .i64 0, .int .i64 0]) ?_ 3 _ rfl; refine blk_put (cs := #[.int .i64 0, .int .i64 0, .int .i64 0, .int .i64 0, .int .i64 0]) ?_ 2 _ rfl; refine blk_put (cs := #[.int .i64 0, .int .i64 0, .int .i64 0, .int .i64 0, .int .i64 0]) ?_ 1 _ rfl; refine blk_put (cs := #[.int .i64 0, .int .i64 0, .int .i64 0, .int .i64 0, .int .i64 0]) ?_ 0 _ rfl; exact BK0.out) Try.underlying52 rfl (by kernel_rfl)) rfl ?_
    exact ⟨rfl, (by repeat (first | exact HB.out | apply pw_below_drewN | refine below_set ?_ GE0.out))⟩
  | true =>
    replace h : ((wage_sums.f k l1).bind fun b => if b.2 = 0 then (if l0.length < k ∧ l0.length ≤ 1000000 then some (ofPure l0 b.1) else none) else some (0, 0, 0, 0, 0, b.2)) = some (r1, r2, r3, r4, r5, r6) := h
    obtain ⟨⟨m, t⟩, A20, h⟩ := Option.bind_eq_some_iff.1 h
    replace h : (if t = 0 then (if l0.length < k ∧ l0.length ≤ 1000000 then some (ofPure l0 m) else none) else some (0, 0, 0, 0, 0, t)) = some (r1, r2, r3, r4, r5, r6) := h
    have A2_ := Aside0.mk A20
    clear A20
    by_cases c3 : t = 0
    · rw [if_pos c3] at h
      subst c3
      by_cases c4 : l0.length < k ∧ l0.length ≤ 1000000
      · rw [if_pos c4] at h
        have HP := Aside0.mk (Option.some.inj h)
        have HK := Aside0.mk c4
        have V := Aside0.mk (sums_ok k l1 m A2_.out)
        have VA := Aside0.mk (show Asc ltB m by rw [V.out.1]; exact addAll_asc l1)
        clear h c4
        go_enter Try.func28, Try.ntmps28
        go_wp2_with (first
          | ((with_reducible refine gate_dst (N := 4) rfl ?_); refine box_event ?hg (N := 4) ?hd (cs := #[.int .i64 0, .int .i64 0, .int .i64 0, .int .i64 0, .int .i64 0]) (t := 52) ?hr ?_; (case hd => rfl); (case hg => rfl); (case hr => first | (go_simp; done) | (go_simp; rfl)); intro g0 hg w7 hbox hb; have n0_ := Aside0.mk (below_step HB.out hb); have GE0 := Aside0.mk ((by rw [hg]; exact below_size HB.out) : w.heap.size ≤ g0); have BK0 := Aside0.mk hbox; clear HB; have HB := n0_; clear n0_ hb hg hbox)
          | ((with_reducible refine gate_callee (f := 15) rfl ?_); refine goesL_ (some 17) rfl rfl Try.func15 (by kernel_rfl) rfl #[.slice A0 l0.length c0] rfl (by (try simp only [List.map_toArray, List.map_cons, List.map_nil]); first | done | rfl) ?_; (with_reducible refine (wage_Valid.calls k _ _ l0 true _ ?side1 ?side2 A1_.out).mono ?_); (case side1 => exact Kd.C_below HR0.out HB.out); (case side2 => exact HC0.out); rintro e w4 ⟨rfl, hb⟩; refine ⟨_, rfl, ?_⟩; have n1_ := Aside0.mk (blk_below BK0.out hb); have n0_ := Aside0.mk (below_step HB.out hb); clear HB BK0; have HB := n0_; have BK0 := n1_; clear n0_ n1_ hb; have hz0 : w4.cell? ⟨g0, 0, none⟩ = some (.int .i64 0) := (blk_cell BK0.out 0).trans rfl; have hf0 := blk_frozen BK0.out 0; have hz1 : w4.cell? ⟨g0, 1, none⟩ = some (.int .i64 0) := (blk_cell BK0.out 1).trans rfl; have hf1 := blk_frozen BK0.out 1; have hz2 : w4.cell? ⟨g0, 2, none⟩ = some (.int .i64 0) := (blk_cell BK0.out 2).trans rfl; have hf2 := blk_frozen BK0.out 2; have hz3 : w4.cell? ⟨g0, 3, none⟩ = some (.int .i64 0) := (blk_cell BK0.out 3).trans rfl; have hf3 := blk_frozen BK0.out 3; have hz4 : w4.cell? ⟨g0, 4, none⟩ = some (.int .i64 0) := (blk_cell BK0.out 4).trans rfl; have hf4 := blk_frozen BK0.out 4)
          | ((with_reducible refine gate_callee (f := 35) rfl ?_); refine goesL_ (some 22) rfl rfl Try.func35 (by kernel_rfl) rfl #[.slice A1 l1.length c1] rfl (by (try simp only [List.map_toArray, List.map_cons, List.map_nil]); first | done | rfl) ?_; (with_reducible refine (wage_sums.calls k _ _ l1 m 0 _ ?side1 ?side2 A2_.out).mono ?_); (case side1 => exact Kd.C_below HR1.out HB.out); (case side2 => exact HC1.out); rintro e w8 ⟨v, rfl, hm, hb⟩; obtain ⟨mb, rfl, hmb, hM⟩ := hm rfl; refine ⟨_, rfl, ?_⟩; have HM := Aside0.mk hM; have GEM := Aside0.mk hmb; clear hM hmb; have n1_ := Aside0.mk (blk_below BK0.out hb); have n0_ := Aside0.mk (below_step HB.out hb); clear HB BK0 hz0 hz1 hz2 hz3 hz4 hf0 hf1 hf2 hf3 hf4; have HB := n0_; have BK0 := n1_; clear n0_ n1_ hb; have hz0 : w8.cell? ⟨g0, 0, none⟩ = some (.int .i64 0) := (blk_cell BK0.out 0).trans rfl; have hf0 := blk_frozen BK0.out 0; have hz1 : w8.cell? ⟨g0, 1, none⟩ = some (.int .i64 0) := (blk_cell BK0.out 1).trans rfl; have hf1 := blk_frozen BK0.out 1; have hz2 : w8.cell? ⟨g0, 2, none⟩ = some (.int .i64 0) := (blk_cell BK0.out 2).trans rfl; have hf2 := blk_frozen BK0.out 2; have hz3 : w8.cell? ⟨g0, 3, none⟩ = some (.int .i64 0) := (blk_cell BK0.out 3).trans rfl; have hf3 := blk_frozen BK0.out 3; have hz4 : w8.cell? ⟨g0, 4, none⟩ = some (.int .i64 0) := (blk_cell BK0.out 4).trans rfl; have hf4 := blk_frozen BK0.out 4)
          | ((with_reducible refine gate_dst (N := 34) rfl ?_); refine lit_event ?hg (N := 34) ?hd (cs := #[.func (.func 39) #[] #[], .int .i64 0, .func (.func 40) #[] #[], .int .i64 0, .func (.func 41) #[] #[], .int .i64 0, .func (.func 42) #[] #[], .int .i64 0, .func (.func 43) #[] #[], .int .i64 0]) (t := 69) (n := 5) ?hr ?_; (case hd => rfl); (case hg => rfl); (case hr => first | (go_simp; done) | (go_simp; rfl)); intro gs hg w9 hbox hb; have n0_ := Aside0.mk (below_step HB.out hb); have n1_ := Aside0.mk (blk_below BK0.out hb); have n2_ := Aside0.mk (HM.out.below hb); have GES := Aside0.mk ((by rw [hg]; exact below_size HB.out) : w.heap.size ≤ gs); have NES := Aside0.mk ((by rw [hg]; exact Nat.ne_of_lt HM.out.lt) : mb ≠ gs); have NE0 := Aside0.mk ((by rw [hg]; exact Nat.ne_of_lt (blk_lt BK0.out)) : g0 ≠ gs); have BS := Aside0.mk hbox; clear HB BK0 HM; have HB := n0_; have BK0 := n1_; have HM := n2_; clear n0_ n1_ n2_ hb hg hbox)
          | (at_range; refine wageMK.range_op _ rfl _ rfl mb 128 m rfl HM.out ?_; intro rb w10 hrb hr hgr; have HR := Aside0.mk hr; have GER := Aside0.mk ((by rw [hrb]; exact below_size HB.out) : w.heap.size ≤ rb); have NER := Aside0.mk ((by rw [hrb]; exact (Nat.ne_of_lt (blk_lt BS.out)).symm) : rb ≠ gs); have NE0R := Aside0.mk ((by rw [hrb]; exact Nat.ne_of_lt (blk_lt BK0.out)) : g0 ≠ rb); have n0_ := Aside0.mk (pw_below_grown HB.out none (below_size HB.out) hgr (by simp)); have n1_ := Aside0.mk (blk_grown BK0.out hgr (by simp)); have n2_ := Aside0.mk (blk_grown BS.out hgr (by simp)); clear HB HM BK0 BS; have HB := n0_; have BK0 := n1_; have BS := n2_; clear n0_ n1_ n2_ hr hgr hrb))
        clear hz0 hz1 hz2 hz3 hz4 hf0 hf1 hf2 hf3 hf4
        (try go_frame)
        go_loopw [] (fun wr => ∃ done : List (Str × Int), Aside0 (wageMK.Ranges wr mb rb 128 m done) ∧ Aside0 (∀ p ∈ done, (findW l0 p.1.s).isSome = true) ∧ Aside0 (wr.heap[gs]? = some (.cells #[.func (.func 39) #[] #[], .int .i64 (sumOf g1 l0 done), .func (.func 40) #[] #[], .int .i64 (sumOf g2 l0 done), .func (.func 41) #[] #[], .int .i64 (sumOf g3 l0 done), .func (.func 42) #[] #[], .int .i64 (sumOf g4 l0 done), .func (.func 43) #[] #[], .int .i64 (sumOf g5 l0 done)] 69 (0, 0))) ∧ Aside0 (wr.heap[g0]? = some (.cells #[.int .i64 0, .int .i64 0, .int .i64 0, .int .i64 0, .int .i64 0] 52 (0, 0))) ∧ Aside0 (Below w.heap.size w wr)) (fun wr => wr.rangeLeft mb rb)
        case atStart => exact ⟨[], HR, ⟨by simp⟩, ⟨by simp only [sumOf_nil]; exact BS.out⟩, BK0, HB⟩
        case round =>
          clear HR HB BS BK0
          obtain ⟨done, HR, HD, BS, BK0, HB⟩ := hrel
          go_wp2_with (first
            | (at_next; refine next_si _ Try.underlying9 Try.underlying3 Try.underlying64 rfl _ rfl mb rb 128 m done rfl HR.out ?_ ?_))
          · intro hall
            have hnd : (done.map (·.1)).Nodup := by
              obtain ⟨_, _, _, _, _, _, _, hn⟩ := HR.out
              exact hn
            have hperm := perm_of_lookup hnd (VA.out.nodup orderB) hall
            have hl : lacks l0 m = false := any_false fun p hp => HD.out p (hperm.mem_iff.2 hp)
            have H := HP.out
            unfold ofPure at H
            rw [if_neg (by rw [hl]; simp), ← sumOf_perm g1 l0 hperm, ← sumOf_perm g2 l0 hperm, ← sumOf_perm g3 l0 hperm, ← sumOf_perm g4 l0 hperm, ← sumOf_perm g5 l0 hperm] at H
            obtain ⟨s0, hs0⟩ : ∃ s, s = sumOf g1 l0 done := ⟨_, rfl⟩
            obtain ⟨s1, hs1⟩ : ∃ s, s = sumOf g2 l0 done := ⟨_, rfl⟩
            obtain ⟨s2, hs2⟩ : ∃ s, s = sumOf g3 l0 done := ⟨_, rfl⟩
            obtain ⟨s3, hs3⟩ : ∃ s, s = sumOf g4 l0 done := ⟨_, rfl⟩
            obtain ⟨s4, hs4⟩ : ∃ s, s = sumOf g5 l0 done := ⟨_, rfl⟩
            rw [← hs0, ← hs1, ← hs2, ← hs3, ← hs4] at BS H
            have HP2 := Aside0.mk H
            clear hall hnd hperm hl H HP hs0 hs1 hs2 hs3 hs4 HD HR
            go_wp2
            (try go_frame)
            go_loopw [75] (fun i wr => ∃ q : Nat, i = .int .i64 (q : Int) ∧ Aside0 (q ≤ 5) ∧ Aside0 ((0 < q → amt s0 = true) ∧ (1 < q → amt s1 = true) ∧ (2 < q → amt s2 = true) ∧ (3 < q → amt s3 = true) ∧ (4 < q → amt s4 = true)) ∧ Aside0 (wr.heap[gs]? = some (.cells #[.func (.func 39) #[] #[], .int .i64 s0, .func (.func 40) #[] #[], .int .i64 s1, .func (.func 41) #[] #[], .int .i64 s2, .func (.func 42) #[] #[], .int .i64 s3, .func (.func 43) #[] #[], .int .i64 s4] 69 (0, 0))) ∧ Aside0 (wr.heap[g0]? = some (.cells #[.int .i64 0, .int .i64 0, .int .i64 0, .int .i64 0, .int .i64 0] 52 (0, 0))) ∧ Aside0 (Below w.heap.size w wr)) (fun i _ => 5 - (intOf i).toNat)
            case atStart => exact ⟨0, rfl, ⟨by omega⟩, ⟨by omega, by omega, by omega, by omega, by omega⟩, BS, BK0, HB⟩
            case round =>
              clear HB BS BK0
              obtain ⟨q, rfl, HQ, HA, BS, BK0, HB⟩ := hrel
              have hq := HQ.out
              clear HQ
              rcases (by omega : q = 0 ∨ q = 1 ∨ q = 2 ∨ q = 3 ∨ q = 4 ∨ q = 5) with rfl | rfl | rfl | rfl | rfl | rfl
              · clear hq
                have k0 : wr.cell? ⟨gs, 0, none⟩ = some (.func (.func 39) #[] #[]) := (blk_cell BS.out 0).trans rfl
                have k1 : wr.cell? ⟨gs, 1, none⟩ = some (.int .i64 s0) := (blk_cell BS.out 1).trans rfl
                obtain ⟨b, hb⟩ : ∃ b, b = amt s0 := ⟨_, rfl⟩
                have HC := Aside0.mk (amtOf_eq s0 b hb)
                have HE := Aside0.mk hb
                cases b with
                | true =>
                  clear hb
                  go_wp2_with (first
                    | ((with_reducible refine gate_dst (N := 15) rfl ?_); refine box_store ?hg (N := 15) ?hd 69 (z := ?zz) ?hr ?hg2 ?hd2 (.tmp 15) (.tmp 78) ?ho2 #[.func (.func 39) #[] #[], .int .i64 s0] ?hx ?hy ?hz ?hi ?h1 ?_; (case hd => rfl); (case hg => rfl); (case hg2 => rfl); (case hd2 => rfl); (case ho2 => rfl); (case hr => first | (go_simp; done) | (go_simp; rfl)); (case hx => rfl); (case hy => rfl); (case hz => rfl); (case hi => kernel_rfl); (case h1 => first | rfl | (simp [Value.oneCell']; done) | (simp; done) | decide); intro gb hg w12 hbox hb; have n0_ := Aside0.mk (below_step HB.out hb); have n1_ := Aside0.mk (blk_below BK0.out hb); have n2_ := Aside0.mk (blk_below BS.out hb); have m1 : w12.cell? ⟨gb, 1, none⟩ = some (.int .i64 s0) := (blk_cell hbox 1).trans rfl; clear HB BK0 BS k0 k1; have HB := n0_; have BK0 := n1_; have BS := n2_; clear n0_ n1_ n2_ hb hg hbox)
                    | ((with_reducible refine gate_callee (f := 44) rfl ?_); refine goesL_ (some 81) rfl rfl Try.func44 (by kernel_rfl) rfl #[.int .i64 s0] rfl (by (try simp only [List.map_toArray, List.map_cons, List.map_nil]); first | done | rfl) ?_; (with_reducible refine (wage_amount.calls s0 true _ HC.out).mono ?_); rintro e w15 ⟨rfl, nd, rfl⟩; refine ⟨_, rfl, ?_⟩; have n0_ := Aside0.mk (pw_below_drewN HB.out nd); have n1_ := Aside0.mk (show (w12.drewN nd).heap[g0]? = _ from BK0.out); have n2_ := Aside0.mk (show (w12.drewN nd).heap[gs]? = _ from BS.out); clear HB BK0 BS m1; obtain ⟨w16, hw16⟩ : ∃ w16, w16 = w12.drewN nd := ⟨_, rfl⟩; rw [← hw16] at n0_ n1_ n2_ ⊢; clear hw16; have HB := n0_; have BK0 := n1_; have BS := n2_; clear n0_ n1_ n2_; have hz0 : w16.cell? ⟨g0, 0, none⟩ = some (.int .i64 0) := (blk_cell BK0.out 0).trans rfl; have hf0 := blk_frozen BK0.out 0; have hz1 : w16.cell? ⟨g0, 1, none⟩ = some (.int .i64 0) := (blk_cell BK0.out 1).trans rfl; have hf1 := blk_frozen BK0.out 1; have hz2 : w16.cell? ⟨g0, 2, none⟩ = some (.int .i64 0) := (blk_cell BK0.out 2).trans rfl; have hf2 := blk_frozen BK0.out 2; have hz3 : w16.cell? ⟨g0, 3, none⟩ = some (.int .i64 0) := (blk_cell BK0.out 3).trans rfl; have hf3 := blk_frozen BK0.out 3; have hz4 : w16.cell? ⟨g0, 4, none⟩ = some (.int .i64 0) := (blk_cell BK0.out 4).trans rfl; have hf4 := blk_frozen BK0.out 4))
                  go_roundw
                  case rel => exact ⟨1, rfl, ⟨by omega⟩, ⟨(fun _ => HE.out.symm), (fun h => absurd h (by omega)), (fun h => absurd h (by omega)), (fun h => absurd h (by omega)), (fun h => absurd h (by omega))⟩, BS, BK0, HB⟩
                  case measure => simp [intOf]
                | false =>
                  have HR5 := Aside0.mk (show r1 = 0 ∧ r2 = 0 ∧ r3 = 0 ∧ r4 = 0 ∧ r5 = 0 ∧ r6 = 4 by
                    have H := HP2.out
                    rw [if_neg (by rw [← hb]; simp)] at H
                    simp only [Prod.mk.injEq] at H
                    obtain ⟨h1, h2, h3, h4, h5, h6⟩ := H
                    exact ⟨h1.symm, h2.symm, h3.symm, h4.symm, h5.symm, h6.symm⟩)
                  obtain ⟨rfl, rfl, rfl, rfl, rfl, rfl⟩ := HR5.out
                  clear hb HR5 HP2
                  go_wp2_with (first
                    | ((with_reducible refine gate_dst (N := 15) rfl ?_); refine box_store ?hg (N := 15) ?hd 69 (z := ?zz) ?hr ?hg2 ?hd2 (.tmp 15) (.tmp 78) ?ho2 #[.func (.func 39) #[] #[], .int .i64 s0] ?hx ?hy ?hz ?hi ?h1 ?_; (case hd => rfl); (case hg => rfl); (case hg2 => rfl); (case hd2 => rfl); (case ho2 => rfl); (case hr => first | (go_simp; done) | (go_simp; rfl)); (case hx => rfl); (case hy => rfl); (case hz => rfl); (case hi => kernel_rfl); (case h1 => first | rfl | (simp [Value.oneCell']; done) | (simp; done) | decide); intro gb hg w12 hbox hb; have n0_ := Aside0.mk (below_step HB.out hb); have n1_ := Aside0.mk (blk_below BK0.out hb); have n2_ := Aside0.mk (blk_below BS.out hb); have m1 : w12.cell? ⟨gb, 1, none⟩ = some (.int .i64 s0) := (blk_cell hbox 1).trans rfl; clear HB BK0 BS k0 k1; have HB := n0_; have BK0 := n1_; have BS := n2_; clear n0_ n1_ n2_ hb hg hbox)
                    | ((with_reducible refine gate_callee (f := 44) rfl ?_); refine goesL_ (some 81) rfl rfl Try.func44 (by kernel_rfl) rfl #[.int .i64 s0] rfl (by (try simp only [List.map_toArray, List.map_cons, List.map_nil]); first | done | rfl) ?_; (with_reducible refine (wage_amount.calls s0 false _ HC.out).mono ?_); rintro e w15 ⟨rfl, nd, rfl⟩; refine ⟨_, rfl, ?_⟩; have n0_ := Aside0.mk (pw_below_drewN HB.out nd); have n1_ := Aside0.mk (show (w12.drewN nd).heap[g0]? = _ from BK0.out); have n2_ := Aside0.mk (show (w12.drewN nd).heap[gs]? = _ from BS.out); clear HB BK0 BS m1; obtain ⟨w16, hw16⟩ : ∃ w16, w16 = w12.drewN nd := ⟨_, rfl⟩; rw [← hw16] at n0_ n1_ n2_ ⊢; clear hw16; have HB := n0_; have BK0 := n1_; have BS := n2_; clear n0_ n1_ n2_; have hz0 : w16.cell? ⟨g0, 0, none⟩ = some (.int .i64 0) := (blk_cell BK0.out 0).trans rfl; have hf0 := blk_frozen BK0.out 0; have hz1 : w16.cell? ⟨g0, 1, none⟩ = some (.int .i64 0) := (blk_cell BK0.out 1).trans rfl; have hf1 := blk_frozen BK0.out 1; have hz2 : w16.cell? ⟨g0, 2, none⟩ = some (.int .i64 0) := (blk_cell BK0.out 2).trans rfl; have hf2 := blk_frozen BK0.out 2; have hz3 : w16.cell? ⟨g0, 3, none⟩ = some (.int .i64 0) := (blk_cell BK0.out 3).trans rfl; have hf3 := blk_frozen BK0.out 3; have hz4 : w16.cell? ⟨g0, 4, none⟩ = some (.int .i64 0) := (blk_cell BK0.out 4).trans rfl; have hf4 := blk_frozen BK0.out 4))
                  refine bodyPost_ret (results_ct rfl _ _ g0 52 #[.int .i64 0, .int .i64 0, .int .i64 0, .int .i64 0, .int .i64 0] (0, 0) _ rfl (by refine blk_put (cs := #[.int .i64 0, .int .i64 0, .int .i64 0, .int .i64 0, .int .i64 0]) ?_ 4 _ rfl; refine blk_put (cs := #[.int .i64 0, .int .i64 0, .int .i64 0, .int .i64 0, .int .i64 0]) ?_ 3 _ rfl; refine blk_put (cs := #[.int .i64 0, .int .i64 0, .int .i64 0, .int .i64 0, .int .i64 0]) ?_ 2 _ rfl; refine blk_put (cs := #[.int .i64 0, .int .i64 0, .int .i64 0, .int .i64 0, .int .i64 0]) ?_ 1 _ rfl; refine blk_put (cs := #[.int .i64 0, .int .i64 0, .int .i64 0, .int .i64 0, .int .i64 0]) ?_ 0 _ rfl; exact BK0.out) Try.underlying52 rfl (by kernel_rfl)) rfl ?_
                  exact ⟨rfl, (by repeat (first | exact HB.out | apply pw_below_drewN | refine below_set ?_ GE0.out))⟩
              · clear hq
                have k0 : wr.cell? ⟨gs, 2, none⟩ = some (.func (.func 40) #[] #[]) := (blk_cell BS.out 2).trans rfl
                have k1 : wr.cell? ⟨gs, 3, none⟩ = some (.int .i64 s1) := (blk_cell BS.out 3).trans rfl
                obtain ⟨b, hb⟩ : ∃ b, b = amt s1 := ⟨_, rfl⟩
                have HC := Aside0.mk (amtOf_eq s1 b hb)
                have HE := Aside0.mk hb
                cases b with
                | true =>
                  clear hb
                  go_wp2_with (first
                    | ((with_reducible refine gate_dst (N := 15) rfl ?_); refine box_store ?hg (N := 15) ?hd 69 (z := ?zz) ?hr ?hg2 ?hd2 (.tmp 15) (.tmp 78) ?ho2 #[.func (.func 40) #[] #[], .int .i64 s1] ?hx ?hy ?hz ?hi ?h1 ?_; (case hd => rfl); (case hg => rfl); (case hg2 => rfl); (case hd2 => rfl); (case ho2 => rfl); (case hr => first | (go_simp; done) | (go_simp; rfl)); (case hx => rfl); (case hy => rfl); (case hz => rfl); (case hi => kernel_rfl); (case h1 => first | rfl | (simp [Value.oneCell']; done) | (simp; done) | decide); intro gb hg w12 hbox hb; have n0_ := Aside0.mk (below_step HB.out hb); have n1_ := Aside0.mk (blk_below BK0.out hb); have n2_ := Aside0.mk (blk_below BS.out hb); have m1 : w12.cell? ⟨gb, 1, none⟩ = some (.int .i64 s1) := (blk_cell hbox 1).trans rfl; clear HB BK0 BS k0 k1; have HB := n0_; have BK0 := n1_; have BS := n2_; clear n0_ n1_ n2_ hb hg hbox)
                    | ((with_reducible refine gate_callee (f := 44) rfl ?_); refine goesL_ (some 81) rfl rfl Try.func44 (by kernel_rfl) rfl #[.int .i64 s1] rfl (by (try simp only [List.map_toArray, List.map_cons, List.map_nil]); first | done | rfl) ?_; (with_reducible refine (wage_amount.calls s1 true _ HC.out).mono ?_); rintro e w15 ⟨rfl, nd, rfl⟩; refine ⟨_, rfl, ?_⟩; have n0_ := Aside0.mk (pw_below_drewN HB.out nd); have n1_ := Aside0.mk (show (w12.drewN nd).heap[g0]? = _ from BK0.out); have n2_ := Aside0.mk (show (w12.drewN nd).heap[gs]? = _ from BS.out); clear HB BK0 BS m1; obtain ⟨w16, hw16⟩ : ∃ w16, w16 = w12.drewN nd := ⟨_, rfl⟩; rw [← hw16] at n0_ n1_ n2_ ⊢; clear hw16; have HB := n0_; have BK0 := n1_; have BS := n2_; clear n0_ n1_ n2_; have hz0 : w16.cell? ⟨g0, 0, none⟩ = some (.int .i64 0) := (blk_cell BK0.out 0).trans rfl; have hf0 := blk_frozen BK0.out 0; have hz1 : w16.cell? ⟨g0, 1, none⟩ = some (.int .i64 0) := (blk_cell BK0.out 1).trans rfl; have hf1 := blk_frozen BK0.out 1; have hz2 : w16.cell? ⟨g0, 2, none⟩ = some (.int .i64 0) := (blk_cell BK0.out 2).trans rfl; have hf2 := blk_frozen BK0.out 2; have hz3 : w16.cell? ⟨g0, 3, none⟩ = some (.int .i64 0) := (blk_cell BK0.out 3).trans rfl; have hf3 := blk_frozen BK0.out 3; have hz4 : w16.cell? ⟨g0, 4, none⟩ = some (.int .i64 0) := (blk_cell BK0.out 4).trans rfl; have hf4 := blk_frozen BK0.out 4))
                  go_roundw
                  case rel => exact ⟨2, rfl, ⟨by omega⟩, ⟨(fun _ => HA.out.1 (by omega)), (fun _ => HE.out.symm), (fun h => absurd h (by omega)), (fun h => absurd h (by omega)), (fun h => absurd h (by omega))⟩, BS, BK0, HB⟩
                  case measure => simp [intOf]
                | false =>
                  have HR5 := Aside0.mk (show r1 = 0 ∧ r2 = 0 ∧ r3 = 0 ∧ r4 = 0 ∧ r5 = 0 ∧ r6 = 4 by
                    have H := HP2.out
                    rw [if_neg (by rw [← hb]; simp)] at H
                    simp only [Prod.mk.injEq] at H
                    obtain ⟨h1, h2, h3, h4, h5, h6⟩ := H
                    exact ⟨h1.symm, h2.symm, h3.symm, h4.symm, h5.symm, h6.symm⟩)
                  obtain ⟨rfl, rfl, rfl, rfl, rfl, rfl⟩ := HR5.out
                  clear hb HR5 HP2
                  go_wp2_with (first
                    | ((with_reducible refine gate_dst (N := 15) rfl ?_); refine box_store ?hg (N := 15) ?hd 69 (z := ?zz) ?hr ?hg2 ?hd2 (.tmp 15) (.tmp 78) ?ho2 #[.func (.func 40) #[] #[], .int .i64 s1] ?hx ?hy ?hz ?hi ?h1 ?_; (case hd => rfl); (case hg => rfl); (case hg2 => rfl); (case hd2 => rfl); (case ho2 => rfl); (case hr => first | (go_simp; done) | (go_simp; rfl)); (case hx => rfl); (case hy => rfl); (case hz => rfl); (case hi => kernel_rfl); (case h1 => first | rfl | (simp [Value.oneCell']; done) | (simp; done) | decide); intro gb hg w12 hbox hb; have n0_ := Aside0.mk (below_step HB.out hb); have n1_ := Aside0.mk (blk_below BK0.out hb); have n2_ := Aside0.mk (blk_below BS.out hb); have m1 : w12.cell? ⟨gb, 1, none⟩ = some (.int .i64 s1) := (blk_cell hbox 1).trans rfl; clear HB BK0 BS k0 k1; have HB := n0_; have BK0 := n1_; have BS := n2_; clear n0_ n1_ n2_ hb hg hbox)
                    | ((with_reducible refine gate_callee (f := 44) rfl ?_); refine goesL_ (some 81) rfl rfl Try.func44 (by kernel_rfl) rfl #[.int .i64 s1] rfl (by (try simp only [List.map_toArray, List.map_cons, List.map_nil]); first | done | rfl) ?_; (with_reducible refine (wage_amount.calls s1 false _ HC.out).mono ?_); rintro e w15 ⟨rfl, nd, rfl⟩; refine ⟨_, rfl, ?_⟩; have n0_ := Aside0.mk (pw_below_drewN HB.out nd); have n1_ := Aside0.mk (show (w12.drewN nd).heap[g0]? = _ from BK0.out); have n2_ := Aside0.mk (show (w12.drewN nd).heap[gs]? = _ from BS.out); clear HB BK0 BS m1; obtain ⟨w16, hw16⟩ : ∃ w16, w16 = w12.drewN nd := ⟨_, rfl⟩; rw [← hw16] at n0_ n1_ n2_ ⊢; clear hw16; have HB := n0_; have BK0 := n1_; have BS := n2_; clear n0_ n1_ n2_; have hz0 : w16.cell? ⟨g0, 0, none⟩ = some (.int .i64 0) := (blk_cell BK0.out 0).trans rfl; have hf0 := blk_frozen BK0.out 0; have hz1 : w16.cell? ⟨g0, 1, none⟩ = some (.int .i64 0) := (blk_cell BK0.out 1).trans rfl; have hf1 := blk_frozen BK0.out 1; have hz2 : w16.cell? ⟨g0, 2, none⟩ = some (.int .i64 0) := (blk_cell BK0.out 2).trans rfl; have hf2 := blk_frozen BK0.out 2; have hz3 : w16.cell? ⟨g0, 3, none⟩ = some (.int .i64 0) := (blk_cell BK0.out 3).trans rfl; have hf3 := blk_frozen BK0.out 3; have hz4 : w16.cell? ⟨g0, 4, none⟩ = some (.int .i64 0) := (blk_cell BK0.out 4).trans rfl; have hf4 := blk_frozen BK0.out 4))
                  refine bodyPost_ret (results_ct rfl _ _ g0 52 #[.int .i64 0, .int .i64 0, .int .i64 0, .int .i64 0, .int .i64 0] (0, 0) _ rfl (by refine blk_put (cs := #[.int .i64 0, .int .i64 0, .int .i64 0, .int .i64 0, .int .i64 0]) ?_ 4 _ rfl; refine blk_put (cs := #[.int .i64 0, .int .i64 0, .int .i64 0, .int .i64 0, .int .i64 0]) ?_ 3 _ rfl; refine blk_put (cs := #[.int .i64 0, .int .i64 0, .int .i64 0, .int .i64 0, .int .i64 0]) ?_ 2 _ rfl; refine blk_put (cs := #[.int .i64 0, .int .i64 0, .int .i64 0, .int .i64 0, .int .i64 0]) ?_ 1 _ rfl; refine blk_put (cs := #[.int .i64 0, .int .i64 0, .int .i64 0, .int .i64 0, .int .i64 0]) ?_ 0 _ rfl; exact BK0.out) Try.underlying52 rfl (by kernel_rfl)) rfl ?_
                  exact ⟨rfl, (by repeat (first | exact HB.out | apply pw_below_drewN | refine below_set ?_ GE0.out))⟩
              · clear hq
                have k0 : wr.cell? ⟨gs, 4, none⟩ = some (.func (.func 41) #[] #[]) := (blk_cell BS.out 4).trans rfl
                have k1 : wr.cell? ⟨gs, 5, none⟩ = some (.int .i64 s2) := (blk_cell BS.out 5).trans rfl
                obtain ⟨b, hb⟩ : ∃ b, b = amt s2 := ⟨_, rfl⟩
                have HC := Aside0.mk (amtOf_eq s2 b hb)
                have HE := Aside0.mk hb
                cases b with
                | true =>
                  clear hb
                  go_wp2_with (first
                    | ((with_reducible refine gate_dst (N := 15) rfl ?_); refine box_store ?hg (N := 15) ?hd 69 (z := ?zz) ?hr ?hg2 ?hd2 (.tmp 15) (.tmp 78) ?ho2 #[.func (.func 41) #[] #[], .int .i64 s2] ?hx ?hy ?hz ?hi ?h1 ?_; (case hd => rfl); (case hg => rfl); (case hg2 => rfl); (case hd2 => rfl); (case ho2 => rfl); (case hr => first | (go_simp; done) | (go_simp; rfl)); (case hx => rfl); (case hy => rfl); (case hz => rfl); (case hi => kernel_rfl); (case h1 => first | rfl | (simp [Value.oneCell']; done) | (simp; done) | decide); intro gb hg w12 hbox hb; have n0_ := Aside0.mk (below_step HB.out hb); have n1_ := Aside0.mk (blk_below BK0.out hb); have n2_ := Aside0.mk (blk_below BS.out hb); have m1 : w12.cell? ⟨gb, 1, none⟩ = some (.int .i64 s2) := (blk_cell hbox 1).trans rfl; clear HB BK0 BS k0 k1; have HB := n0_; have BK0 := n1_; have BS := n2_; clear n0_ n1_ n2_ hb hg hbox)
                    | ((with_reducible refine gate_callee (f := 44) rfl ?_); refine goesL_ (some 81) rfl rfl Try.func44 (by kernel_rfl) rfl #[.int .i64 s2] rfl (by (try simp only [List.map_toArray, List.map_cons, List.map_nil]); first | done | rfl) ?_; (with_reducible refine (wage_amount.calls s2 true _ HC.out).mono ?_); rintro e w15 ⟨rfl, nd, rfl⟩; refine ⟨_, rfl, ?_⟩; have n0_ := Aside0.mk (pw_below_drewN HB.out nd); have n1_ := Aside0.mk (show (w12.drewN nd).heap[g0]? = _ from BK0.out); have n2_ := Aside0.mk (show (w12.drewN nd).heap[gs]? = _ from BS.out); clear HB BK0 BS m1; obtain ⟨w16, hw16⟩ : ∃ w16, w16 = w12.drewN nd := ⟨_, rfl⟩; rw [← hw16] at n0_ n1_ n2_ ⊢; clear hw16; have HB := n0_; have BK0 := n1_; have BS := n2_; clear n0_ n1_ n2_; have hz0 : w16.cell? ⟨g0, 0, none⟩ = some (.int .i64 0) := (blk_cell BK0.out 0).trans rfl; have hf0 := blk_frozen BK0.out 0; have hz1 : w16.cell? ⟨g0, 1, none⟩ = some (.int .i64 0) := (blk_cell BK0.out 1).trans rfl; have hf1 := blk_frozen BK0.out 1; have hz2 : w16.cell? ⟨g0, 2, none⟩ = some (.int .i64 0) := (blk_cell BK0.out 2).trans rfl; have hf2 := blk_frozen BK0.out 2; have hz3 : w16.cell? ⟨g0, 3, none⟩ = some (.int .i64 0) := (blk_cell BK0.out 3).trans rfl; have hf3 := blk_frozen BK0.out 3; have hz4 : w16.cell? ⟨g0, 4, none⟩ = some (.int .i64 0) := (blk_cell BK0.out 4).trans rfl; have hf4 := blk_frozen BK0.out 4))
                  go_roundw
                  case rel => exact ⟨3, rfl, ⟨by omega⟩, ⟨(fun _ => HA.out.1 (by omega)), (fun _ => HA.out.2.1 (by omega)), (fun _ => HE.out.symm), (fun h => absurd h (by omega)), (fun h => absurd h (by omega))⟩, BS, BK0, HB⟩
                  case measure => simp [intOf]
                | false =>
                  have HR5 := Aside0.mk (show r1 = 0 ∧ r2 = 0 ∧ r3 = 0 ∧ r4 = 0 ∧ r5 = 0 ∧ r6 = 4 by
                    have H := HP2.out
                    rw [if_neg (by rw [← hb]; simp)] at H
                    simp only [Prod.mk.injEq] at H
                    obtain ⟨h1, h2, h3, h4, h5, h6⟩ := H
                    exact ⟨h1.symm, h2.symm, h3.symm, h4.symm, h5.symm, h6.symm⟩)
                  obtain ⟨rfl, rfl, rfl, rfl, rfl, rfl⟩ := HR5.out
                  clear hb HR5 HP2
                  go_wp2_with (first
                    | ((with_reducible refine gate_dst (N := 15) rfl ?_); refine box_store ?hg (N := 15) ?hd 69 (z := ?zz) ?hr ?hg2 ?hd2 (.tmp 15) (.tmp 78) ?ho2 #[.func (.func 41) #[] #[], .int .i64 s2] ?hx ?hy ?hz ?hi ?h1 ?_; (case hd => rfl); (case hg => rfl); (case hg2 => rfl); (case hd2 => rfl); (case ho2 => rfl); (case hr => first | (go_simp; done) | (go_simp; rfl)); (case hx => rfl); (case hy => rfl); (case hz => rfl); (case hi => kernel_rfl); (case h1 => first | rfl | (simp [Value.oneCell']; done) | (simp; done) | decide); intro gb hg w12 hbox hb; have n0_ := Aside0.mk (below_step HB.out hb); have n1_ := Aside0.mk (blk_below BK0.out hb); have n2_ := Aside0.mk (blk_below BS.out hb); have m1 : w12.cell? ⟨gb, 1, none⟩ = some (.int .i64 s2) := (blk_cell hbox 1).trans rfl; clear HB BK0 BS k0 k1; have HB := n0_; have BK0 := n1_; have BS := n2_; clear n0_ n1_ n2_ hb hg hbox)
                    | ((with_reducible refine gate_callee (f := 44) rfl ?_); refine goesL_ (some 81) rfl rfl Try.func44 (by kernel_rfl) rfl #[.int .i64 s2] rfl (by (try simp only [List.map_toArray, List.map_cons, List.map_nil]); first | done | rfl) ?_; (with_reducible refine (wage_amount.calls s2 false _ HC.out).mono ?_); rintro e w15 ⟨rfl, nd, rfl⟩; refine ⟨_, rfl, ?_⟩; have n0_ := Aside0.mk (pw_below_drewN HB.out nd); have n1_ := Aside0.mk (show (w12.drewN nd).heap[g0]? = _ from BK0.out); have n2_ := Aside0.mk (show (w12.drewN nd).heap[gs]? = _ from BS.out); clear HB BK0 BS m1; obtain ⟨w16, hw16⟩ : ∃ w16, w16 = w12.drewN nd := ⟨_, rfl⟩; rw [← hw16] at n0_ n1_ n2_ ⊢; clear hw16; have HB := n0_; have BK0 := n1_; have BS := n2_; clear n0_ n1_ n2_; have hz0 : w16.cell? ⟨g0, 0, none⟩ = some (.int .i64 0) := (blk_cell BK0.out 0).trans rfl; have hf0 := blk_frozen BK0.out 0; have hz1 : w16.cell? ⟨g0, 1, none⟩ = some (.int .i64 0) := (blk_cell BK0.out 1).trans rfl; have hf1 := blk_frozen BK0.out 1; have hz2 : w16.cell? ⟨g0, 2, none⟩ = some (.int .i64 0) := (blk_cell BK0.out 2).trans rfl; have hf2 := blk_frozen BK0.out 2; have hz3 : w16.cell? ⟨g0, 3, none⟩ = some (.int .i64 0) := (blk_cell BK0.out 3).trans rfl; have hf3 := blk_frozen BK0.out 3; have hz4 : w16.cell? ⟨g0, 4, none⟩ = some (.int .i64 0) := (blk_cell BK0.out 4).trans rfl; have hf4 := blk_frozen BK0.out 4))
                  refine bodyPost_ret (results_ct rfl _ _ g0 52 #[.int .i64 0, .int .i64 0, .int .i64 0, .int .i64 0, .int .i64 0] (0, 0) _ rfl (by refine blk_put (cs := #[.int .i64 0, .int .i64 0, .int .i64 0, .int .i64 0, .int .i64 0]) ?_ 4 _ rfl; refine blk_put (cs := #[.int .i64 0, .int .i64 0, .int .i64 0, .int .i64 0, .int .i64 0]) ?_ 3 _ rfl; refine blk_put (cs := #[.int .i64 0, .int .i64 0, .int .i64 0, .int .i64 0, .int .i64 0]) ?_ 2 _ rfl; refine blk_put (cs := #[.int .i64 0, .int .i64 0, .int .i64 0, .int .i64 0, .int .i64 0]) ?_ 1 _ rfl; refine blk_put (cs := #[.int .i64 0, .int .i64 0, .int .i64 0, .int .i64 0, .int .i64 0]) ?_ 0 _ rfl; exact BK0.out) Try.underlying52 rfl (by kernel_rfl)) rfl ?_
                  exact ⟨rfl, (by repeat (first | exact HB.out | apply pw_below_drewN | refine below_set ?_ GE0.out))⟩
              · clear hq
                have k0 : wr.cell? ⟨gs, 6, none⟩ = some (.func (.func 42) #[] #[]) := (blk_cell BS.out 6).trans rfl
                have k1 : wr.cell? ⟨gs, 7, none⟩ = some (.int .i64 s3) := (blk_cell BS.out 7).trans rfl
                obtain ⟨b, hb⟩ : ∃ b, b = amt s3 := ⟨_, rfl⟩
                have HC := Aside0.mk (amtOf_eq s3 b hb)
                have HE := Aside0.mk hb
                cases b with
                | true =>
                  clear hb
                  go_wp2_with (first
                    | ((with_reducible refine gate_dst (N := 15) rfl ?_); refine box_store ?hg (N := 15) ?hd 69 (z := ?zz) ?hr ?hg2 ?hd2 (.tmp 15) (.tmp 78) ?ho2 #[.func (.func 42) #[] #[], .int .i64 s3] ?hx ?hy ?hz ?hi ?h1 ?_; (case hd => rfl); (case hg => rfl); (case hg2 => rfl); (case hd2 => rfl); (case ho2 => rfl); (case hr => first | (go_simp; done) | (go_simp; rfl)); (case hx => rfl); (case hy => rfl); (case hz => rfl); (case hi => kernel_rfl); (case h1 => first | rfl | (simp [Value.oneCell']; done) | (simp; done) | decide); intro gb hg w12 hbox hb; have n0_ := Aside0.mk (below_step HB.out hb); have n1_ := Aside0.mk (blk_below BK0.out hb); have n2_ := Aside0.mk (blk_below BS.out hb); have m1 : w12.cell? ⟨gb, 1, none⟩ = some (.int .i64 s3) := (blk_cell hbox 1).trans rfl; clear HB BK0 BS k0 k1; have HB := n0_; have BK0 := n1_; have BS := n2_; clear n0_ n1_ n2_ hb hg hbox)
                    | ((with_reducible refine gate_callee (f := 44) rfl ?_); refine goesL_ (some 81) rfl rfl Try.func44 (by kernel_rfl) rfl #[.int .i64 s3] rfl (by (try simp only [List.map_toArray, List.map_cons, List.map_nil]); first | done | rfl) ?_; (with_reducible refine (wage_amount.calls s3 true _ HC.out).mono ?_); rintro e w15 ⟨rfl, nd, rfl⟩; refine ⟨_, rfl, ?_⟩; have n0_ := Aside0.mk (pw_below_drewN HB.out nd); have n1_ := Aside0.mk (show (w12.drewN nd).heap[g0]? = _ from BK0.out); have n2_ := Aside0.mk (show (w12.drewN nd).heap[gs]? = _ from BS.out); clear HB BK0 BS m1; obtain ⟨w16, hw16⟩ : ∃ w16, w16 = w12.drewN nd := ⟨_, rfl⟩; rw [← hw16] at n0_ n1_ n2_ ⊢; clear hw16; have HB := n0_; have BK0 := n1_; have BS := n2_; clear n0_ n1_ n2_; have hz0 : w16.cell? ⟨g0, 0, none⟩ = some (.int .i64 0) := (blk_cell BK0.out 0).trans rfl; have hf0 := blk_frozen BK0.out 0; have hz1 : w16.cell? ⟨g0, 1, none⟩ = some (.int .i64 0) := (blk_cell BK0.out 1).trans rfl; have hf1 := blk_frozen BK0.out 1; have hz2 : w16.cell? ⟨g0, 2, none⟩ = some (.int .i64 0) := (blk_cell BK0.out 2).trans rfl; have hf2 := blk_frozen BK0.out 2; have hz3 : w16.cell? ⟨g0, 3, none⟩ = some (.int .i64 0) := (blk_cell BK0.out 3).trans rfl; have hf3 := blk_frozen BK0.out 3; have hz4 : w16.cell? ⟨g0, 4, none⟩ = some (.int .i64 0) := (blk_cell BK0.out 4).trans rfl; have hf4 := blk_frozen BK0.out 4))
                  go_roundw
                  case rel => exact ⟨4, rfl, ⟨by omega⟩, ⟨(fun _ => HA.out.1 (by omega)), (fun _ => HA.out.2.1 (by omega)), (fun _ => HA.out.2.2.1 (by omega)), (fun _ => HE.out.symm), (fun h => absurd h (by omega))⟩, BS, BK0, HB⟩
                  case measure => simp [intOf]
                | false =>
                  have HR5 := Aside0.mk (show r1 = 0 ∧ r2 = 0 ∧ r3 = 0 ∧ r4 = 0 ∧ r5 = 0 ∧ r6 = 4 by
                    have H := HP2.out
                    rw [if_neg (by rw [← hb]; simp)] at H
                    simp only [Prod.mk.injEq] at H
                    obtain ⟨h1, h2, h3, h4, h5, h6⟩ := H
                    exact ⟨h1.symm, h2.symm, h3.symm, h4.symm, h5.symm, h6.symm⟩)
                  obtain ⟨rfl, rfl, rfl, rfl, rfl, rfl⟩ := HR5.out
                  clear hb HR5 HP2
                  go_wp2_with (first
                    | ((with_reducible refine gate_dst (N := 15) rfl ?_); refine box_store ?hg (N := 15) ?hd 69 (z := ?zz) ?hr ?hg2 ?hd2 (.tmp 15) (.tmp 78) ?ho2 #[.func (.func 42) #[] #[], .int .i64 s3] ?hx ?hy ?hz ?hi ?h1 ?_; (case hd => rfl); (case hg => rfl); (case hg2 => rfl); (case hd2 => rfl); (case ho2 => rfl); (case hr => first | (go_simp; done) | (go_simp; rfl)); (case hx => rfl); (case hy => rfl); (case hz => rfl); (case hi => kernel_rfl); (case h1 => first | rfl | (simp [Value.oneCell']; done) | (simp; done) | decide); intro gb hg w12 hbox hb; have n0_ := Aside0.mk (below_step HB.out hb); have n1_ := Aside0.mk (blk_below BK0.out hb); have n2_ := Aside0.mk (blk_below BS.out hb); have m1 : w12.cell? ⟨gb, 1, none⟩ = some (.int .i64 s3) := (blk_cell hbox 1).trans rfl; clear HB BK0 BS k0 k1; have HB := n0_; have BK0 := n1_; have BS := n2_; clear n0_ n1_ n2_ hb hg hbox)
                    | ((with_reducible refine gate_callee (f := 44) rfl ?_); refine goesL_ (some 81) rfl rfl Try.func44 (by kernel_rfl) rfl #[.int .i64 s3] rfl (by (try simp only [List.map_toArray, List.map_cons, List.map_nil]); first | done | rfl) ?_; (with_reducible refine (wage_amount.calls s3 false _ HC.out).mono ?_); rintro e w15 ⟨rfl, nd, rfl⟩; refine ⟨_, rfl, ?_⟩; have n0_ := Aside0.mk (pw_below_drewN HB.out nd); have n1_ := Aside0.mk (show (w12.drewN nd).heap[g0]? = _ from BK0.out); have n2_ := Aside0.mk (show (w12.drewN nd).heap[gs]? = _ from BS.out); clear HB BK0 BS m1; obtain ⟨w16, hw16⟩ : ∃ w16, w16 = w12.drewN nd := ⟨_, rfl⟩; rw [← hw16] at n0_ n1_ n2_ ⊢; clear hw16; have HB := n0_; have BK0 := n1_; have BS := n2_; clear n0_ n1_ n2_; have hz0 : w16.cell? ⟨g0, 0, none⟩ = some (.int .i64 0) := (blk_cell BK0.out 0).trans rfl; have hf0 := blk_frozen BK0.out 0; have hz1 : w16.cell? ⟨g0, 1, none⟩ = some (.int .i64 0) := (blk_cell BK0.out 1).trans rfl; have hf1 := blk_frozen BK0.out 1; have hz2 : w16.cell? ⟨g0, 2, none⟩ = some (.int .i64 0) := (blk_cell BK0.out 2).trans rfl; have hf2 := blk_frozen BK0.out 2; have hz3 : w16.cell? ⟨g0, 3, none⟩ = some (.int .i64 0) := (blk_cell BK0.out 3).trans rfl; have hf3 := blk_frozen BK0.out 3; have hz4 : w16.cell? ⟨g0, 4, none⟩ = some (.int .i64 0) := (blk_cell BK0.out 4).trans rfl; have hf4 := blk_frozen BK0.out 4))
                  refine bodyPost_ret (results_ct rfl _ _ g0 52 #[.int .i64 0, .int .i64 0, .int .i64 0, .int .i64 0, .int .i64 0] (0, 0) _ rfl (by refine blk_put (cs := #[.int .i64 0, .int .i64 0, .int .i64 0, .int .i64 0, .int .i64 0]) ?_ 4 _ rfl; refine blk_put (cs := #[.int .i64 0, .int .i64 0, .int .i64 0, .int .i64 0, .int .i64 0]) ?_ 3 _ rfl; refine blk_put (cs := #[.int .i64 0, .int .i64 0, .int .i64 0, .int .i64 0, .int .i64 0]) ?_ 2 _ rfl; refine blk_put (cs := #[.int .i64 0, .int .i64 0, .int .i64 0, .int .i64 0, .int .i64 0]) ?_ 1 _ rfl; refine blk_put (cs := #[.int .i64 0, .int .i64 0, .int .i64 0, .int .i64 0, .int .i64 0]) ?_ 0 _ rfl; exact BK0.out) Try.underlying52 rfl (by kernel_rfl)) rfl ?_
                  exact ⟨rfl, (by repeat (first | exact HB.out | apply pw_below_drewN | refine below_set ?_ GE0.out))⟩
              · clear hq
                have k0 : wr.cell? ⟨gs, 8, none⟩ = some (.func (.func 43) #[] #[]) := (blk_cell BS.out 8).trans rfl
                have k1 : wr.cell? ⟨gs, 9, none⟩ = some (.int .i64 s4) := (blk_cell BS.out 9).trans rfl
                obtain ⟨b, hb⟩ : ∃ b, b = amt s4 := ⟨_, rfl⟩
                have HC := Aside0.mk (amtOf_eq s4 b hb)
                have HE := Aside0.mk hb
                cases b with
                | true =>
                  clear hb
                  go_wp2_with (first
                    | ((with_reducible refine gate_dst (N := 15) rfl ?_); refine box_store ?hg (N := 15) ?hd 69 (z := ?zz) ?hr ?hg2 ?hd2 (.tmp 15) (.tmp 78) ?ho2 #[.func (.func 43) #[] #[], .int .i64 s4] ?hx ?hy ?hz ?hi ?h1 ?_; (case hd => rfl); (case hg => rfl); (case hg2 => rfl); (case hd2 => rfl); (case ho2 => rfl); (case hr => first | (go_simp; done) | (go_simp; rfl)); (case hx => rfl); (case hy => rfl); (case hz => rfl); (case hi => kernel_rfl); (case h1 => first | rfl | (simp [Value.oneCell']; done) | (simp; done) | decide); intro gb hg w12 hbox hb; have n0_ := Aside0.mk (below_step HB.out hb); have n1_ := Aside0.mk (blk_below BK0.out hb); have n2_ := Aside0.mk (blk_below BS.out hb); have m1 : w12.cell? ⟨gb, 1, none⟩ = some (.int .i64 s4) := (blk_cell hbox 1).trans rfl; clear HB BK0 BS k0 k1; have HB := n0_; have BK0 := n1_; have BS := n2_; clear n0_ n1_ n2_ hb hg hbox)
                    | ((with_reducible refine gate_callee (f := 44) rfl ?_); refine goesL_ (some 81) rfl rfl Try.func44 (by kernel_rfl) rfl #[.int .i64 s4] rfl (by (try simp only [List.map_toArray, List.map_cons, List.map_nil]); first | done | rfl) ?_; (with_reducible refine (wage_amount.calls s4 true _ HC.out).mono ?_); rintro e w15 ⟨rfl, nd, rfl⟩; refine ⟨_, rfl, ?_⟩; have n0_ := Aside0.mk (pw_below_drewN HB.out nd); have n1_ := Aside0.mk (show (w12.drewN nd).heap[g0]? = _ from BK0.out); have n2_ := Aside0.mk (show (w12.drewN nd).heap[gs]? = _ from BS.out); clear HB BK0 BS m1; obtain ⟨w16, hw16⟩ : ∃ w16, w16 = w12.drewN nd := ⟨_, rfl⟩; rw [← hw16] at n0_ n1_ n2_ ⊢; clear hw16; have HB := n0_; have BK0 := n1_; have BS := n2_; clear n0_ n1_ n2_; have hz0 : w16.cell? ⟨g0, 0, none⟩ = some (.int .i64 0) := (blk_cell BK0.out 0).trans rfl; have hf0 := blk_frozen BK0.out 0; have hz1 : w16.cell? ⟨g0, 1, none⟩ = some (.int .i64 0) := (blk_cell BK0.out 1).trans rfl; have hf1 := blk_frozen BK0.out 1; have hz2 : w16.cell? ⟨g0, 2, none⟩ = some (.int .i64 0) := (blk_cell BK0.out 2).trans rfl; have hf2 := blk_frozen BK0.out 2; have hz3 : w16.cell? ⟨g0, 3, none⟩ = some (.int .i64 0) := (blk_cell BK0.out 3).trans rfl; have hf3 := blk_frozen BK0.out 3; have hz4 : w16.cell? ⟨g0, 4, none⟩ = some (.int .i64 0) := (blk_cell BK0.out 4).trans rfl; have hf4 := blk_frozen BK0.out 4))
                  go_roundw
                  case rel => exact ⟨5, rfl, ⟨by omega⟩, ⟨(fun _ => HA.out.1 (by omega)), (fun _ => HA.out.2.1 (by omega)), (fun _ => HA.out.2.2.1 (by omega)), (fun _ => HA.out.2.2.2.1 (by omega)), (fun _ => HE.out.symm)⟩, BS, BK0, HB⟩
                  case measure => simp [intOf]
                | false =>
                  have HR5 := Aside0.mk (show r1 = 0 ∧ r2 = 0 ∧ r3 = 0 ∧ r4 = 0 ∧ r5 = 0 ∧ r6 = 4 by
                    have H := HP2.out
                    rw [if_neg (by rw [← hb]; simp)] at H
                    simp only [Prod.mk.injEq] at H
                    obtain ⟨h1, h2, h3, h4, h5, h6⟩ := H
                    exact ⟨h1.symm, h2.symm, h3.symm, h4.symm, h5.symm, h6.symm⟩)
                  obtain ⟨rfl, rfl, rfl, rfl, rfl, rfl⟩ := HR5.out
                  clear hb HR5 HP2
                  go_wp2_with (first
                    | ((with_reducible refine gate_dst (N := 15) rfl ?_); refine box_store ?hg (N := 15) ?hd 69 (z := ?zz) ?hr ?hg2 ?hd2 (.tmp 15) (.tmp 78) ?ho2 #[.func (.func 43) #[] #[], .int .i64 s4] ?hx ?hy ?hz ?hi ?h1 ?_; (case hd => rfl); (case hg => rfl); (case hg2 => rfl); (case hd2 => rfl); (case ho2 => rfl); (case hr => first | (go_simp; done) | (go_simp; rfl)); (case hx => rfl); (case hy => rfl); (case hz => rfl); (case hi => kernel_rfl); (case h1 => first | rfl | (simp [Value.oneCell']; done) | (simp; done) | decide); intro gb hg w12 hbox hb; have n0_ := Aside0.mk (below_step HB.out hb); have n1_ := Aside0.mk (blk_below BK0.out hb); have n2_ := Aside0.mk (blk_below BS.out hb); have m1 : w12.cell? ⟨gb, 1, none⟩ = some (.int .i64 s4) := (blk_cell hbox 1).trans rfl; clear HB BK0 BS k0 k1; have HB := n0_; have BK0 := n1_; have BS := n2_; clear n0_ n1_ n2_ hb hg hbox)
                    | ((with_reducible refine gate_callee (f := 44) rfl ?_); refine goesL_ (some 81) rfl rfl Try.func44 (by kernel_rfl) rfl #[.int .i64 s4] rfl (by (try simp only [List.map_toArray, List.map_cons, List.map_nil]); first | done | rfl) ?_; (with_reducible refine (wage_amount.calls s4 false _ HC.out).mono ?_); rintro e w15 ⟨rfl, nd, rfl⟩; refine ⟨_, rfl, ?_⟩; have n0_ := Aside0.mk (pw_below_drewN HB.out nd); have n1_ := Aside0.mk (show (w12.drewN nd).heap[g0]? = _ from BK0.out); have n2_ := Aside0.mk (show (w12.drewN nd).heap[gs]? = _ from BS.out); clear HB BK0 BS m1; obtain ⟨w16, hw16⟩ : ∃ w16, w16 = w12.drewN nd := ⟨_, rfl⟩; rw [← hw16] at n0_ n1_ n2_ ⊢; clear hw16; have HB := n0_; have BK0 := n1_; have BS := n2_; clear n0_ n1_ n2_; have hz0 : w16.cell? ⟨g0, 0, none⟩ = some (.int .i64 0) := (blk_cell BK0.out 0).trans rfl; have hf0 := blk_frozen BK0.out 0; have hz1 : w16.cell? ⟨g0, 1, none⟩ = some (.int .i64 0) := (blk_cell BK0.out 1).trans rfl; have hf1 := blk_frozen BK0.out 1; have hz2 : w16.cell? ⟨g0, 2, none⟩ = some (.int .i64 0) := (blk_cell BK0.out 2).trans rfl; have hf2 := blk_frozen BK0.out 2; have hz3 : w16.cell? ⟨g0, 3, none⟩ = some (.int .i64 0) := (blk_cell BK0.out 3).trans rfl; have hf3 := blk_frozen BK0.out 3; have hz4 : w16.cell? ⟨g0, 4, none⟩ = some (.int .i64 0) := (blk_cell BK0.out 4).trans rfl; have hf4 := blk_frozen BK0.out 4))
                  refine bodyPost_ret (results_ct rfl _ _ g0 52 #[.int .i64 0, .int .i64 0, .int .i64 0, .int .i64 0, .int .i64 0] (0, 0) _ rfl (by refine blk_put (cs := #[.int .i64 0, .int .i64 0, .int .i64 0, .int .i64 0, .int .i64 0]) ?_ 4 _ rfl; refine blk_put (cs := #[.int .i64 0, .int .i64 0, .int .i64 0, .int .i64 0, .int .i64 0]) ?_ 3 _ rfl; refine blk_put (cs := #[.int .i64 0, .int .i64 0, .int .i64 0, .int .i64 0, .int .i64 0]) ?_ 2 _ rfl; refine blk_put (cs := #[.int .i64 0, .int .i64 0, .int .i64 0, .int .i64 0, .int .i64 0]) ?_ 1 _ rfl; refine blk_put (cs := #[.int .i64 0, .int .i64 0, .int .i64 0, .int .i64 0, .int .i64 0]) ?_ 0 _ rfl; exact BK0.out) Try.underlying52 rfl (by kernel_rfl)) rfl ?_
                  exact ⟨rfl, (by repeat (first | exact HB.out | apply pw_below_drewN | refine below_set ?_ GE0.out))⟩
              · clear hq
                have HR5 := Aside0.mk (show r1 = s0 ∧ r2 = s1 ∧ r3 = s2 ∧ r4 = s3 ∧ r5 = s4 ∧ r6 = 0 by
                  have H := HP2.out
                  have a := HA.out
                  rw [a.1 (by omega), a.2.1 (by omega), a.2.2.1 (by omega), a.2.2.2.1 (by omega), a.2.2.2.2 (by omega)] at H
                  rw [if_pos (by rfl)] at H
                  simp only [Prod.mk.injEq] at H
                  obtain ⟨h1, h2, h3, h4, h5, h6⟩ := H
                  exact ⟨h1.symm, h2.symm, h3.symm, h4.symm, h5.symm, h6.symm⟩)
                obtain ⟨rfl, rfl, rfl, rfl, rfl, rfl⟩ := HR5.out
                clear HR5 HP2 HA
                have k0 : wr.cell? ⟨gs, 1, none⟩ = some (.int .i64 r1) := (blk_cell BS.out 1).trans rfl; have k1 : wr.cell? ⟨gs, 3, none⟩ = some (.int .i64 r2) := (blk_cell BS.out 3).trans rfl; have k2 : wr.cell? ⟨gs, 5, none⟩ = some (.int .i64 r3) := (blk_cell BS.out 5).trans rfl; have k3 : wr.cell? ⟨gs, 7, none⟩ = some (.int .i64 r4) := (blk_cell BS.out 7).trans rfl; have k4 : wr.cell? ⟨gs, 9, none⟩ = some (.int .i64 r5) := (blk_cell BS.out 9).trans rfl
                skip
                go_wp2
                go_still_tail 21, (by kernel_rfl)
                change wpList _ _ _ _ _ wr.drew
                have BKD := Aside0.mk (show wr.drew.heap[g0]? = some (.cells #[.int .i64 0, .int .i64 0, .int .i64 0, .int .i64 0, .int .i64 0] 52 (0, 0)) from BK0.out)
                have HBD := Aside0.mk (below_drew HB.out)
                clear BK0 HB BS k0 k1 k2 k3 k4
                obtain ⟨wd, hwd⟩ : ∃ wd, wd = wr.drew := ⟨_, rfl⟩
                rw [← hwd] at BKD HBD ⊢
                clear hwd
                have BK0 := BKD
                have HB := HBD
                clear BKD HBD
                have hz0 : wd.cell? ⟨g0, 0, none⟩ = some (.int .i64 0) := (blk_cell BK0.out 0).trans rfl; have hf0 := blk_frozen BK0.out 0; have hz1 : wd.cell? ⟨g0, 1, none⟩ = some (.int .i64 0) := (blk_cell BK0.out 1).trans rfl; have hf1 := blk_frozen BK0.out 1; have hz2 : wd.cell? ⟨g0, 2, none⟩ = some (.int .i64 0) := (blk_cell BK0.out 2).trans rfl; have hf2 := blk_frozen BK0.out 2; have hz3 : wd.cell? ⟨g0, 3, none⟩ = some (.int .i64 0) := (blk_cell BK0.out 3).trans rfl; have hf3 := blk_frozen BK0.out 3; have hz4 : wd.cell? ⟨g0, 4, none⟩ = some (.int .i64 0) := (blk_cell BK0.out 4).trans rfl; have hf4 := blk_frozen BK0.out 4
                go_wp2
                refine bodyPost_ret (results_ct rfl _ _ g0 52 #[.int .i64 r1, .int .i64 r2, .int .i64 r3, .int .i64 r4, .int .i64 r5] (0, 0) _ rfl (by refine blk_put (cs := #[.int .i64 r1, .int .i64 r2, .int .i64 r3, .int .i64 r4, .int .i64 0]) ?_ 4 _ rfl; refine blk_put (cs := #[.int .i64 r1, .int .i64 r2, .int .i64 r3, .int .i64 0, .int .i64 0]) ?_ 3 _ rfl; refine blk_put (cs := #[.int .i64 r1, .int .i64 r2, .int .i64 0, .int .i64 0, .int .i64 0]) ?_ 2 _ rfl; refine blk_put (cs := #[.int .i64 r1, .int .i64 0, .int .i64 0, .int .i64 0, .int .i64 0]) ?_ 1 _ rfl; refine blk_put (cs := #[.int .i64 0, .int .i64 0, .int .i64 0, .int .i64 0, .int .i64 0]) ?_ 0 _ rfl; exact BK0.out) Try.underlying52 rfl (by kernel_rfl)) rfl ?_
                exact ⟨rfl, (by repeat (first | exact HB.out | apply pw_below_drewN | refine below_set ?_ GE0.out))⟩
          · intro x c w1 hwx hwc hmx hdx hr hlt hg hsz hen
            have HR2 := Aside0.mk hr
            have HLT := Aside0.mk hlt
            have HMX := Aside0.mk (mem_of_lookup hmx)
            have n0_ := Aside0.mk (pw_below_grown HB.out _ (below_size HB.out) hg (fun k e => by cases e; exact GER.out))
            have n1_ := Aside0.mk (blk_grown BK0.out hg (fun e => NE0R.out (Option.some.inj e)))
            have n2_ := Aside0.mk (blk_grown BS.out hg (fun e => NER.out (Option.some.inj e).symm))
            clear HB BK0 BS; have HB := n0_; have BK0 := n1_; have BS := n2_
            clear n0_ n1_ n2_ hmx hdx hr hlt hg hsz hwx hwc HR
            have AF := Aside0.mk (find_eq l0 x.s k HK.out.2 HK.out.1)
            obtain ⟨fw, hfw⟩ : ∃ fw, fw = findW l0 x.s := ⟨_, rfl⟩
            rw [← hfw] at AF
            have HFW := Aside0.mk hfw
            clear hfw
            cases fw with
            | none =>
              have hl : lacks l0 m = true := by
                unfold lacks
                rw [List.any_eq_true]
                exact ⟨(x, c), HMX.out, by rw [← HFW.out]; rfl⟩
              have H := HP.out
              unfold ofPure at H
              rw [if_pos hl] at H
              simp only [Prod.mk.injEq] at H
              obtain ⟨rfl, rfl, rfl, rfl, rfl, rfl⟩ := H
              clear hl HP
              go_wp2_with (first
                | ((with_reducible refine gate_callee (f := 17) rfl ?_); refine goesL_ (some 45) rfl rfl Try.func17 (by kernel_rfl) rfl #[.slice A0 l0.length c0, .string x.s] rfl (by (try simp only [List.map_toArray, List.map_cons, List.map_nil]); first | done | rfl) ?_; (with_reducible refine (wage_Find.calls k _ _ l0 x.s ⟨#[]⟩ 0 false false false 0 false _ ?side1 ?side2 AF.out).mono ?_); (case side1 => exact Kd.C_below HR0.out HB.out); (case side2 => exact HC0.out); rintro e w11 ⟨rfl, hb⟩; refine ⟨_, rfl, ?_⟩; have n0_ := Aside0.mk (below_step HB.out hb); have n1_ := Aside0.mk (blk_below BK0.out hb); have n2_ := Aside0.mk (blk_below BS.out hb); have n3_ := Aside0.mk (HR2.out.kept (grown_of_below hb none) (by simp) (by simp)); clear HB BK0 BS HR2; have HB := n0_; have BK0 := n1_; have BS := n2_; have HR2 := Aside0.mk n3_.out.1; have HLE := Aside0.mk n3_.out.2; clear n0_ n1_ n2_ n3_ hb)
                | ((with_reducible refine gate_dst (N := 11) rfl ?_); refine box_store ?hg (N := 11) ?hd 31 (z := #[.string ⟨#[]⟩, .int .i64 0, .bool false, .bool false, .bool false, .int .i64 0]) ?hr ?hg2 ?hd2 (.tmp 11) (.tmp 46) ?ho2 #[.string ⟨#[]⟩, .int .i64 0, .bool false, .bool false, .bool false, .int .i64 0] ?hx ?hy ?hz ?hi ?h1 ?_; (case hd => rfl); (case hg => rfl); (case hg2 => rfl); (case hd2 => rfl); (case ho2 => rfl); (case hr => first | (go_simp; done) | (go_simp; rfl)); (case hx => rfl); (case hy => rfl); (case hz => rfl); (case hi => kernel_rfl); (case h1 => first | rfl | (simp [Value.oneCell']; done) | (simp; done) | decide); intro gw hg w12 hbox hb; have n0_ := Aside0.mk (below_step HB.out hb); have n1_ := Aside0.mk (blk_below BK0.out hb); have n2_ := Aside0.mk (blk_below BS.out hb); have n3_ := Aside0.mk (HR2.out.kept (grown_of_below hb none) (by simp) (by simp)); have GEW := Aside0.mk ((by rw [hg]; exact below_size HB.out) : w.heap.size ≤ gw); have NWS := Aside0.mk ((by rw [hg]; exact Nat.ne_of_lt (blk_lt BS.out)) : gs ≠ gw); have NW0 := Aside0.mk ((by rw [hg]; exact Nat.ne_of_lt (blk_lt BK0.out)) : g0 ≠ gw); have NWM := Aside0.mk ((by rw [hg]; exact Nat.ne_of_lt HR2.out.is.lt) : mb ≠ gw); have NWR := Aside0.mk ((by rw [hg]; exact Nat.ne_of_lt HR2.out.lt) : rb ≠ gw); have BW := Aside0.mk hbox; have HLE2 := Aside0.mk (n3_.out.2.trans HLE.out); clear HB BK0 BS HR2 HLE; have HB := n0_; have BK0 := n1_; have BS := n2_; have HR2 := Aside0.mk n3_.out.1; clear n0_ n1_ n2_ n3_ hb hg hbox; have hz0 : w12.cell? ⟨g0, 0, none⟩ = some (.int .i64 0) := (blk_cell BK0.out 0).trans rfl; have hf0 := blk_frozen BK0.out 0; have hz1 : w12.cell? ⟨g0, 1, none⟩ = some (.int .i64 0) := (blk_cell BK0.out 1).trans rfl; have hf1 := blk_frozen BK0.out 1; have hz2 : w12.cell? ⟨g0, 2, none⟩ = some (.int .i64 0) := (blk_cell BK0.out 2).trans rfl; have hf2 := blk_frozen BK0.out 2; have hz3 : w12.cell? ⟨g0, 3, none⟩ = some (.int .i64 0) := (blk_cell BK0.out 3).trans rfl; have hf3 := blk_frozen BK0.out 3; have hz4 : w12.cell? ⟨g0, 4, none⟩ = some (.int .i64 0) := (blk_cell BK0.out 4).trans rfl; have hf4 := blk_frozen BK0.out 4))
              refine bodyPost_ret (results_ct rfl _ _ g0 52 #[.int .i64 0, .int .i64 0, .int .i64 0, .int .i64 0, .int .i64 0] (0, 0) _ rfl (by refine blk_put (cs := #[.int .i64 0, .int .i64 0, .int .i64 0, .int .i64 0, .int .i64 0]) ?_ 4 _ rfl; refine blk_put (cs := #[.int .i64 0, .int .i64 0, .int .i64 0, .int .i64 0, .int .i64 0]) ?_ 3 _ rfl; refine blk_put (cs := #[.int .i64 0, .int .i64 0, .int .i64 0, .int .i64 0, .int .i64 0]) ?_ 2 _ rfl; refine blk_put (cs := #[.int .i64 0, .int .i64 0, .int .i64 0, .int .i64 0, .int .i64 0]) ?_ 1 _ rfl; refine blk_put (cs := #[.int .i64 0, .int .i64 0, .int .i64 0, .int .i64 0, .int .i64 0]) ?_ 0 _ rfl; exact BK0.out) Try.underlying52 rfl (by kernel_rfl)) rfl ?_
              exact ⟨rfl, (by repeat (first | exact HB.out | apply pw_below_drewN | refine below_set ?_ GE0.out))⟩
            | some y =>
              obtain ⟨s0, hs0⟩ : ∃ s, s = sumOf g1 l0 done := ⟨_, rfl⟩
              obtain ⟨s1, hs1⟩ : ∃ s, s = sumOf g2 l0 done := ⟨_, rfl⟩
              obtain ⟨s2, hs2⟩ : ∃ s, s = sumOf g3 l0 done := ⟨_, rfl⟩
              obtain ⟨s3, hs3⟩ : ∃ s, s = sumOf g4 l0 done := ⟨_, rfl⟩
              obtain ⟨s4, hs4⟩ : ∃ s, s = sumOf g5 l0 done := ⟨_, rfl⟩
              obtain ⟨u0, hu0⟩ : ∃ s, s = sumOf g1 l0 (done ++ [(x, c)]) := ⟨_, rfl⟩
              obtain ⟨u1, hu1⟩ : ∃ s, s = sumOf g2 l0 (done ++ [(x, c)]) := ⟨_, rfl⟩
              obtain ⟨u2, hu2⟩ : ∃ s, s = sumOf g3 l0 (done ++ [(x, c)]) := ⟨_, rfl⟩
              obtain ⟨u3, hu3⟩ : ∃ s, s = sumOf g4 l0 (done ++ [(x, c)]) := ⟨_, rfl⟩
              obtain ⟨u4, hu4⟩ : ∃ s, s = sumOf g5 l0 (done ++ [(x, c)]) := ⟨_, rfl⟩
              rw [← hs0, ← hs1, ← hs2, ← hs3, ← hs4] at BS
              have W0 := Aside0.mk (sumOf_step g1 l0 done x c y HFW.out)
              have W1 := Aside0.mk (sumOf_step g2 l0 done x c y HFW.out)
              have W2 := Aside0.mk (sumOf_step g3 l0 done x c y HFW.out)
              have W3 := Aside0.mk (sumOf_step g4 l0 done x c y HFW.out)
              have W4 := Aside0.mk (sumOf_step g5 l0 done x c y HFW.out)
              rw [← hs0, ← hu0] at W0
              rw [← hs1, ← hu1] at W1
              rw [← hs2, ← hu2] at W2
              rw [← hs3, ← hu3] at W3
              rw [← hs4, ← hu4] at W4
              have HU := Aside0.mk (And.intro hu0 (And.intro hu1 (And.intro hu2 (And.intro hu3 hu4))))
              have HD2 := Aside0.mk (show ∀ p ∈ done ++ [(x, c)], (findW l0 p.1.s).isSome = true from fun p hp => (List.mem_append.1 hp).elim (fun hp => HD.out p hp) (fun hp => by rw [List.mem_singleton] at hp; subst hp; rw [← HFW.out]; rfl))
              clear hs0 hs1 hs2 hs3 hs4 hu0 hu1 hu2 hu3 hu4 HP HD
              go_wp2_with (first
                | ((with_reducible refine gate_callee (f := 17) rfl ?_); refine goesL_ (some 45) rfl rfl Try.func17 (by kernel_rfl) rfl #[.slice A0 l0.length c0, .string x.s] rfl (by (try simp only [List.map_toArray, List.map_cons, List.map_nil]); first | done | rfl) ?_; (with_reducible refine (wage_Find.calls k _ _ l0 x.s y.f0 y.f1 y.f2 y.f3 y.f4 y.f5 true _ ?side1 ?side2 AF.out).mono ?_); (case side1 => exact Kd.C_below HR0.out HB.out); (case side2 => exact HC0.out); rintro e w11 ⟨rfl, hb⟩; refine ⟨_, rfl, ?_⟩; have n0_ := Aside0.mk (below_step HB.out hb); have n1_ := Aside0.mk (blk_below BK0.out hb); have n2_ := Aside0.mk (blk_below BS.out hb); have n3_ := Aside0.mk (HR2.out.kept (grown_of_below hb none) (by simp) (by simp)); clear HB BK0 BS HR2; have HB := n0_; have BK0 := n1_; have BS := n2_; have HR2 := Aside0.mk n3_.out.1; have HLE := Aside0.mk n3_.out.2; clear n0_ n1_ n2_ n3_ hb)
                | ((with_reducible refine gate_dst (N := 11) rfl ?_); refine box_store ?hg (N := 11) ?hd 31 (z := #[.string ⟨#[]⟩, .int .i64 0, .bool false, .bool false, .bool false, .int .i64 0]) ?hr ?hg2 ?hd2 (.tmp 11) (.tmp 46) ?ho2 #[.string y.f0, .int .i64 y.f1, .bool y.f2, .bool y.f3, .bool y.f4, .int .i64 y.f5] ?hx ?hy ?hz ?hi ?h1 ?_; (case hd => rfl); (case hg => rfl); (case hg2 => rfl); (case hd2 => rfl); (case ho2 => rfl); (case hr => first | (go_simp; done) | (go_simp; rfl)); (case hx => rfl); (case hy => rfl); (case hz => rfl); (case hi => kernel_rfl); (case h1 => first | rfl | (simp [Value.oneCell']; done) | (simp; done) | decide); intro gw hg w12 hbox hb; have n0_ := Aside0.mk (below_step HB.out hb); have n1_ := Aside0.mk (blk_below BK0.out hb); have n2_ := Aside0.mk (blk_below BS.out hb); have n3_ := Aside0.mk (HR2.out.kept (grown_of_below hb none) (by simp) (by simp)); have GEW := Aside0.mk ((by rw [hg]; exact below_size HB.out) : w.heap.size ≤ gw); have NWS := Aside0.mk ((by rw [hg]; exact Nat.ne_of_lt (blk_lt BS.out)) : gs ≠ gw); have NW0 := Aside0.mk ((by rw [hg]; exact Nat.ne_of_lt (blk_lt BK0.out)) : g0 ≠ gw); have NWM := Aside0.mk ((by rw [hg]; exact Nat.ne_of_lt HR2.out.is.lt) : mb ≠ gw); have NWR := Aside0.mk ((by rw [hg]; exact Nat.ne_of_lt HR2.out.lt) : rb ≠ gw); have BW := Aside0.mk hbox; have HLE2 := Aside0.mk (n3_.out.2.trans HLE.out); clear HB BK0 BS HR2 HLE; have HB := n0_; have BK0 := n1_; have BS := n2_; have HR2 := Aside0.mk n3_.out.1; clear n0_ n1_ n2_ n3_ hb hg hbox; skip))
              (try go_frame)
              go_loopw [53] (fun i wr => ∃ q : Nat, i = .int .i64 (q : Int) ∧ Aside0 (q ≤ 5) ∧ Aside0 (wr.heap[gs]? = some (.cells (cellsAt s0 s1 s2 s3 s4 u0 u1 u2 u3 u4 q) 69 (0, 0))) ∧ Aside0 (wr.heap[g0]? = some (.cells #[.int .i64 0, .int .i64 0, .int .i64 0, .int .i64 0, .int .i64 0] 52 (0, 0))) ∧ Aside0 (wr.heap[gw]? = some (.cells #[.string y.f0, .int .i64 y.f1, .bool y.f2, .bool y.f3, .bool y.f4, .int .i64 y.f5] 31 (0, 0))) ∧ Aside0 (wageMK.Ranges wr mb rb 128 m (done ++ [(x, c)])) ∧ Aside0 (wr.rangeLeft mb rb = w1.rangeLeft mb rb) ∧ Aside0 (Below w.heap.size w wr)) (fun i _ => 5 - (intOf i).toNat)
              case atStart => exact ⟨0, rfl, ⟨by omega⟩, BS, BK0, BW, HR2, HLE2, HB⟩
              case round =>
                clear HB BS BK0 BW HR2 HLE2
                obtain ⟨q, rfl, HQ, BS, BK0, BW, HR2, HLE2, HB⟩ := hrel
                have hq := HQ.out
                clear HQ
                rcases (by omega : q = 0 ∨ q = 1 ∨ q = 2 ∨ q = 3 ∨ q = 4 ∨ q = 5) with rfl | rfl | rfl | rfl | rfl | rfl
                · clear hq
                  have k0 : wr.cell? ⟨gs, 0, none⟩ = some (.func (.func 39) #[] #[]) := (blk_cell BS.out 0).trans rfl
                  have k1 : wr.cell? ⟨gs, 1, none⟩ = some (.int .i64 s0) := (blk_cell BS.out 1).trans rfl
                  have k2 := blk_frozen BS.out 1
                  have v0 : wr.cell? ⟨gw, 0, none⟩ = some (.string y.f0) := (blk_cell BW.out 0).trans rfl; have v1 : wr.cell? ⟨gw, 1, none⟩ = some (.int .i64 y.f1) := (blk_cell BW.out 1).trans rfl; have v2 : wr.cell? ⟨gw, 2, none⟩ = some (.bool y.f2) := (blk_cell BW.out 2).trans rfl; have v3 : wr.cell? ⟨gw, 3, none⟩ = some (.bool y.f3) := (blk_cell BW.out 3).trans rfl; have v4 : wr.cell? ⟨gw, 4, none⟩ = some (.bool y.f4) := (blk_cell BW.out 4).trans rfl; have v5 : wr.cell? ⟨gw, 5, none⟩ = some (.int .i64 y.f5) := (blk_cell BW.out 5).trans rfl
                  obtain ⟨b, hb⟩ : ∃ b, b = g1 y := ⟨_, rfl⟩
                  have HC := Aside0.mk hb
                  cases b with
                  | true =>
                    have HW := Aside0.mk (show wrap64 (s0 + c) = u0 by have := W0.out; rw [← hb, if_pos rfl] at this; exact this)
                    clear hb
                    go_wp2
                    go_still_tail 6, (by kernel_rfl)
                    go_wp2_with (first
                      | (go_at_call 39; (with_reducible refine (ofc_1 y true HC.out _).mono ?_); rintro e w14 ⟨rfl, hb⟩; have n0_ := Aside0.mk (below_step (below_drew HB.out) hb); have n1_ := Aside0.mk (blk_below (show wr.drew.heap[gs]? = _ from BS.out) hb); have n2_ := Aside0.mk (blk_below (show wr.drew.heap[g0]? = _ from BK0.out) hb); have n3_ := Aside0.mk (blk_below (show wr.drew.heap[gw]? = _ from BW.out) hb); have n4_ := Aside0.mk ((show wageMK.Ranges wr.drew mb rb 128 m (done ++ [(x, c)]) from HR2.out).kept (grown_of_below hb none) (by simp) (by simp)); have n5_ := Aside0.mk (n4_.out.2.trans (show wr.drew.rangeLeft mb rb = w1.rangeLeft mb rb from HLE2.out)); clear HB BS BK0 BW HR2 HLE2 hb k0 k1 k2 v0 v1 v2 v3 v4 v5; have HB := n0_; have BS := n1_; have BK0 := n2_; have BW := n3_; have HR2 := Aside0.mk n4_.out.1; have HLE2 := n5_; clear n0_ n1_ n2_ n3_ n4_ n5_; have k1 : w14.cell? ⟨gs, 1, none⟩ = some (.int .i64 s0) := (blk_cell BS.out 1).trans rfl; have k2 := blk_frozen BS.out 1))
                    go_roundw
                    case rel => exact ⟨1, rfl, ⟨by omega⟩, ⟨by rw [← HW.out]; exact blk_put BS.out 1 _ rfl⟩, ⟨blkOf_far BK0.out NE0.out _⟩, ⟨blkOf_far BW.out (Ne.symm NWS.out) _⟩, ⟨rng_far HR2.out NES.out NER.out _⟩, ⟨(left_far HR2.out NES.out NER.out _).trans HLE2.out⟩, ⟨below_set HB.out GES.out⟩⟩
                    case measure => simp [intOf]
                  | false =>
                    have HW := Aside0.mk (show s0 = u0 by have := W0.out; rw [← hb, if_neg (by simp)] at this; exact this)
                    clear hb
                    go_wp2
                    go_still_tail 6, (by kernel_rfl)
                    go_wp2_with (first
                      | (go_at_call 39; (with_reducible refine (ofc_1 y false HC.out _).mono ?_); rintro e w14 ⟨rfl, hb⟩; have n0_ := Aside0.mk (below_step (below_drew HB.out) hb); have n1_ := Aside0.mk (blk_below (show wr.drew.heap[gs]? = _ from BS.out) hb); have n2_ := Aside0.mk (blk_below (show wr.drew.heap[g0]? = _ from BK0.out) hb); have n3_ := Aside0.mk (blk_below (show wr.drew.heap[gw]? = _ from BW.out) hb); have n4_ := Aside0.mk ((show wageMK.Ranges wr.drew mb rb 128 m (done ++ [(x, c)]) from HR2.out).kept (grown_of_below hb none) (by simp) (by simp)); have n5_ := Aside0.mk (n4_.out.2.trans (show wr.drew.rangeLeft mb rb = w1.rangeLeft mb rb from HLE2.out)); clear HB BS BK0 BW HR2 HLE2 hb k0 k1 k2 v0 v1 v2 v3 v4 v5; have HB := n0_; have BS := n1_; have BK0 := n2_; have BW := n3_; have HR2 := Aside0.mk n4_.out.1; have HLE2 := n5_; clear n0_ n1_ n2_ n3_ n4_ n5_))
                    go_roundw
                    case rel => exact ⟨1, rfl, ⟨by omega⟩, ⟨by rw [← HW.out]; exact BS.out⟩, BK0, BW, HR2, HLE2, HB⟩
                    case measure => simp [intOf]
                · clear hq
                  have k0 : wr.cell? ⟨gs, 2, none⟩ = some (.func (.func 40) #[] #[]) := (blk_cell BS.out 2).trans rfl
                  have k1 : wr.cell? ⟨gs, 3, none⟩ = some (.int .i64 s1) := (blk_cell BS.out 3).trans rfl
                  have k2 := blk_frozen BS.out 3
                  have v0 : wr.cell? ⟨gw, 0, none⟩ = some (.string y.f0) := (blk_cell BW.out 0).trans rfl; have v1 : wr.cell? ⟨gw, 1, none⟩ = some (.int .i64 y.f1) := (blk_cell BW.out 1).trans rfl; have v2 : wr.cell? ⟨gw, 2, none⟩ = some (.bool y.f2) := (blk_cell BW.out 2).trans rfl; have v3 : wr.cell? ⟨gw, 3, none⟩ = some (.bool y.f3) := (blk_cell BW.out 3).trans rfl; have v4 : wr.cell? ⟨gw, 4, none⟩ = some (.bool y.f4) := (blk_cell BW.out 4).trans rfl; have v5 : wr.cell? ⟨gw, 5, none⟩ = some (.int .i64 y.f5) := (blk_cell BW.out 5).trans rfl
                  obtain ⟨b, hb⟩ : ∃ b, b = g2 y := ⟨_, rfl⟩
                  have HC := Aside0.mk hb
                  cases b with
                  | true =>
                    have HW := Aside0.mk (show wrap64 (s1 + c) = u1 by have := W1.out; rw [← hb, if_pos rfl] at this; exact this)
                    clear hb
                    go_wp2
                    go_still_tail 6, (by kernel_rfl)
                    go_wp2_with (first
                      | (go_at_call 40; (with_reducible refine (ofc_2 y true HC.out _).mono ?_); rintro e w14 ⟨rfl, hb⟩; have n0_ := Aside0.mk (below_step (below_drew HB.out) hb); have n1_ := Aside0.mk (blk_below (show wr.drew.heap[gs]? = _ from BS.out) hb); have n2_ := Aside0.mk (blk_below (show wr.drew.heap[g0]? = _ from BK0.out) hb); have n3_ := Aside0.mk (blk_below (show wr.drew.heap[gw]? = _ from BW.out) hb); have n4_ := Aside0.mk ((show wageMK.Ranges wr.drew mb rb 128 m (done ++ [(x, c)]) from HR2.out).kept (grown_of_below hb none) (by simp) (by simp)); have n5_ := Aside0.mk (n4_.out.2.trans (show wr.drew.rangeLeft mb rb = w1.rangeLeft mb rb from HLE2.out)); clear HB BS BK0 BW HR2 HLE2 hb k0 k1 k2 v0 v1 v2 v3 v4 v5; have HB := n0_; have BS := n1_; have BK0 := n2_; have BW := n3_; have HR2 := Aside0.mk n4_.out.1; have HLE2 := n5_; clear n0_ n1_ n2_ n3_ n4_ n5_; have k1 : w14.cell? ⟨gs, 3, none⟩ = some (.int .i64 s1) := (blk_cell BS.out 3).trans rfl; have k2 := blk_frozen BS.out 3))
                    go_roundw
                    case rel => exact ⟨2, rfl, ⟨by omega⟩, ⟨by rw [← HW.out]; exact blk_put BS.out 3 _ rfl⟩, ⟨blkOf_far BK0.out NE0.out _⟩, ⟨blkOf_far BW.out (Ne.symm NWS.out) _⟩, ⟨rng_far HR2.out NES.out NER.out _⟩, ⟨(left_far HR2.out NES.out NER.out _).trans HLE2.out⟩, ⟨below_set HB.out GES.out⟩⟩
                    case measure => simp [intOf]
                  | false =>
                    have HW := Aside0.mk (show s1 = u1 by have := W1.out; rw [← hb, if_neg (by simp)] at this; exact this)
                    clear hb
                    go_wp2
                    go_still_tail 6, (by kernel_rfl)
                    go_wp2_with (first
                      | (go_at_call 40; (with_reducible refine (ofc_2 y false HC.out _).mono ?_); rintro e w14 ⟨rfl, hb⟩; have n0_ := Aside0.mk (below_step (below_drew HB.out) hb); have n1_ := Aside0.mk (blk_below (show wr.drew.heap[gs]? = _ from BS.out) hb); have n2_ := Aside0.mk (blk_below (show wr.drew.heap[g0]? = _ from BK0.out) hb); have n3_ := Aside0.mk (blk_below (show wr.drew.heap[gw]? = _ from BW.out) hb); have n4_ := Aside0.mk ((show wageMK.Ranges wr.drew mb rb 128 m (done ++ [(x, c)]) from HR2.out).kept (grown_of_below hb none) (by simp) (by simp)); have n5_ := Aside0.mk (n4_.out.2.trans (show wr.drew.rangeLeft mb rb = w1.rangeLeft mb rb from HLE2.out)); clear HB BS BK0 BW HR2 HLE2 hb k0 k1 k2 v0 v1 v2 v3 v4 v5; have HB := n0_; have BS := n1_; have BK0 := n2_; have BW := n3_; have HR2 := Aside0.mk n4_.out.1; have HLE2 := n5_; clear n0_ n1_ n2_ n3_ n4_ n5_))
                    go_roundw
                    case rel => exact ⟨2, rfl, ⟨by omega⟩, ⟨by rw [← HW.out]; exact BS.out⟩, BK0, BW, HR2, HLE2, HB⟩
                    case measure => simp [intOf]
                · clear hq
                  have k0 : wr.cell? ⟨gs, 4, none⟩ = some (.func (.func 41) #[] #[]) := (blk_cell BS.out 4).trans rfl
                  have k1 : wr.cell? ⟨gs, 5, none⟩ = some (.int .i64 s2) := (blk_cell BS.out 5).trans rfl
                  have k2 := blk_frozen BS.out 5
                  have v0 : wr.cell? ⟨gw, 0, none⟩ = some (.string y.f0) := (blk_cell BW.out 0).trans rfl; have v1 : wr.cell? ⟨gw, 1, none⟩ = some (.int .i64 y.f1) := (blk_cell BW.out 1).trans rfl; have v2 : wr.cell? ⟨gw, 2, none⟩ = some (.bool y.f2) := (blk_cell BW.out 2).trans rfl; have v3 : wr.cell? ⟨gw, 3, none⟩ = some (.bool y.f3) := (blk_cell BW.out 3).trans rfl; have v4 : wr.cell? ⟨gw, 4, none⟩ = some (.bool y.f4) := (blk_cell BW.out 4).trans rfl; have v5 : wr.cell? ⟨gw, 5, none⟩ = some (.int .i64 y.f5) := (blk_cell BW.out 5).trans rfl
                  obtain ⟨b, hb⟩ : ∃ b, b = g3 y := ⟨_, rfl⟩
                  have HC := Aside0.mk hb
                  cases b with
                  | true =>
                    have HW := Aside0.mk (show wrap64 (s2 + c) = u2 by have := W2.out; rw [← hb, if_pos rfl] at this; exact this)
                    clear hb
                    go_wp2
                    go_still_tail 6, (by kernel_rfl)
                    go_wp2_with (first
                      | (go_at_call 41; (with_reducible refine (ofc_3 y true HC.out _).mono ?_); rintro e w14 ⟨rfl, hb⟩; have n0_ := Aside0.mk (below_step (below_drew HB.out) hb); have n1_ := Aside0.mk (blk_below (show wr.drew.heap[gs]? = _ from BS.out) hb); have n2_ := Aside0.mk (blk_below (show wr.drew.heap[g0]? = _ from BK0.out) hb); have n3_ := Aside0.mk (blk_below (show wr.drew.heap[gw]? = _ from BW.out) hb); have n4_ := Aside0.mk ((show wageMK.Ranges wr.drew mb rb 128 m (done ++ [(x, c)]) from HR2.out).kept (grown_of_below hb none) (by simp) (by simp)); have n5_ := Aside0.mk (n4_.out.2.trans (show wr.drew.rangeLeft mb rb = w1.rangeLeft mb rb from HLE2.out)); clear HB BS BK0 BW HR2 HLE2 hb k0 k1 k2 v0 v1 v2 v3 v4 v5; have HB := n0_; have BS := n1_; have BK0 := n2_; have BW := n3_; have HR2 := Aside0.mk n4_.out.1; have HLE2 := n5_; clear n0_ n1_ n2_ n3_ n4_ n5_; have k1 : w14.cell? ⟨gs, 5, none⟩ = some (.int .i64 s2) := (blk_cell BS.out 5).trans rfl; have k2 := blk_frozen BS.out 5))
                    go_roundw
                    case rel => exact ⟨3, rfl, ⟨by omega⟩, ⟨by rw [← HW.out]; exact blk_put BS.out 5 _ rfl⟩, ⟨blkOf_far BK0.out NE0.out _⟩, ⟨blkOf_far BW.out (Ne.symm NWS.out) _⟩, ⟨rng_far HR2.out NES.out NER.out _⟩, ⟨(left_far HR2.out NES.out NER.out _).trans HLE2.out⟩, ⟨below_set HB.out GES.out⟩⟩
                    case measure => simp [intOf]
                  | false =>
                    have HW := Aside0.mk (show s2 = u2 by have := W2.out; rw [← hb, if_neg (by simp)] at this; exact this)
                    clear hb
                    go_wp2
                    go_still_tail 6, (by kernel_rfl)
                    go_wp2_with (first
                      | (go_at_call 41; (with_reducible refine (ofc_3 y false HC.out _).mono ?_); rintro e w14 ⟨rfl, hb⟩; have n0_ := Aside0.mk (below_step (below_drew HB.out) hb); have n1_ := Aside0.mk (blk_below (show wr.drew.heap[gs]? = _ from BS.out) hb); have n2_ := Aside0.mk (blk_below (show wr.drew.heap[g0]? = _ from BK0.out) hb); have n3_ := Aside0.mk (blk_below (show wr.drew.heap[gw]? = _ from BW.out) hb); have n4_ := Aside0.mk ((show wageMK.Ranges wr.drew mb rb 128 m (done ++ [(x, c)]) from HR2.out).kept (grown_of_below hb none) (by simp) (by simp)); have n5_ := Aside0.mk (n4_.out.2.trans (show wr.drew.rangeLeft mb rb = w1.rangeLeft mb rb from HLE2.out)); clear HB BS BK0 BW HR2 HLE2 hb k0 k1 k2 v0 v1 v2 v3 v4 v5; have HB := n0_; have BS := n1_; have BK0 := n2_; have BW := n3_; have HR2 := Aside0.mk n4_.out.1; have HLE2 := n5_; clear n0_ n1_ n2_ n3_ n4_ n5_))
                    go_roundw
                    case rel => exact ⟨3, rfl, ⟨by omega⟩, ⟨by rw [← HW.out]; exact BS.out⟩, BK0, BW, HR2, HLE2, HB⟩
                    case measure => simp [intOf]
                · clear hq
                  have k0 : wr.cell? ⟨gs, 6, none⟩ = some (.func (.func 42) #[] #[]) := (blk_cell BS.out 6).trans rfl
                  have k1 : wr.cell? ⟨gs, 7, none⟩ = some (.int .i64 s3) := (blk_cell BS.out 7).trans rfl
                  have k2 := blk_frozen BS.out 7
                  have v0 : wr.cell? ⟨gw, 0, none⟩ = some (.string y.f0) := (blk_cell BW.out 0).trans rfl; have v1 : wr.cell? ⟨gw, 1, none⟩ = some (.int .i64 y.f1) := (blk_cell BW.out 1).trans rfl; have v2 : wr.cell? ⟨gw, 2, none⟩ = some (.bool y.f2) := (blk_cell BW.out 2).trans rfl; have v3 : wr.cell? ⟨gw, 3, none⟩ = some (.bool y.f3) := (blk_cell BW.out 3).trans rfl; have v4 : wr.cell? ⟨gw, 4, none⟩ = some (.bool y.f4) := (blk_cell BW.out 4).trans rfl; have v5 : wr.cell? ⟨gw, 5, none⟩ = some (.int .i64 y.f5) := (blk_cell BW.out 5).trans rfl
                  obtain ⟨b, hb⟩ : ∃ b, b = g4 y := ⟨_, rfl⟩
                  have HC := Aside0.mk hb
                  cases b with
                  | true =>
                    have HW := Aside0.mk (show wrap64 (s3 + c) = u3 by have := W3.out; rw [← hb, if_pos rfl] at this; exact this)
                    clear hb
                    go_wp2
                    go_still_tail 6, (by kernel_rfl)
                    go_wp2_with (first
                      | (go_at_call 42; (with_reducible refine (ofc_4 y true HC.out _).mono ?_); rintro e w14 ⟨rfl, hb⟩; have n0_ := Aside0.mk (below_step (below_drew HB.out) hb); have n1_ := Aside0.mk (blk_below (show wr.drew.heap[gs]? = _ from BS.out) hb); have n2_ := Aside0.mk (blk_below (show wr.drew.heap[g0]? = _ from BK0.out) hb); have n3_ := Aside0.mk (blk_below (show wr.drew.heap[gw]? = _ from BW.out) hb); have n4_ := Aside0.mk ((show wageMK.Ranges wr.drew mb rb 128 m (done ++ [(x, c)]) from HR2.out).kept (grown_of_below hb none) (by simp) (by simp)); have n5_ := Aside0.mk (n4_.out.2.trans (show wr.drew.rangeLeft mb rb = w1.rangeLeft mb rb from HLE2.out)); clear HB BS BK0 BW HR2 HLE2 hb k0 k1 k2 v0 v1 v2 v3 v4 v5; have HB := n0_; have BS := n1_; have BK0 := n2_; have BW := n3_; have HR2 := Aside0.mk n4_.out.1; have HLE2 := n5_; clear n0_ n1_ n2_ n3_ n4_ n5_; have k1 : w14.cell? ⟨gs, 7, none⟩ = some (.int .i64 s3) := (blk_cell BS.out 7).trans rfl; have k2 := blk_frozen BS.out 7))
                    go_roundw
                    case rel => exact ⟨4, rfl, ⟨by omega⟩, ⟨by rw [← HW.out]; exact blk_put BS.out 7 _ rfl⟩, ⟨blkOf_far BK0.out NE0.out _⟩, ⟨blkOf_far BW.out (Ne.symm NWS.out) _⟩, ⟨rng_far HR2.out NES.out NER.out _⟩, ⟨(left_far HR2.out NES.out NER.out _).trans HLE2.out⟩, ⟨below_set HB.out GES.out⟩⟩
                    case measure => simp [intOf]
                  | false =>
                    have HW := Aside0.mk (show s3 = u3 by have := W3.out; rw [← hb, if_neg (by simp)] at this; exact this)
                    clear hb
                    go_wp2
                    go_still_tail 6, (by kernel_rfl)
                    go_wp2_with (first
                      | (go_at_call 42; (with_reducible refine (ofc_4 y false HC.out _).mono ?_); rintro e w14 ⟨rfl, hb⟩; have n0_ := Aside0.mk (below_step (below_drew HB.out) hb); have n1_ := Aside0.mk (blk_below (show wr.drew.heap[gs]? = _ from BS.out) hb); have n2_ := Aside0.mk (blk_below (show wr.drew.heap[g0]? = _ from BK0.out) hb); have n3_ := Aside0.mk (blk_below (show wr.drew.heap[gw]? = _ from BW.out) hb); have n4_ := Aside0.mk ((show wageMK.Ranges wr.drew mb rb 128 m (done ++ [(x, c)]) from HR2.out).kept (grown_of_below hb none) (by simp) (by simp)); have n5_ := Aside0.mk (n4_.out.2.trans (show wr.drew.rangeLeft mb rb = w1.rangeLeft mb rb from HLE2.out)); clear HB BS BK0 BW HR2 HLE2 hb k0 k1 k2 v0 v1 v2 v3 v4 v5; have HB := n0_; have BS := n1_; have BK0 := n2_; have BW := n3_; have HR2 := Aside0.mk n4_.out.1; have HLE2 := n5_; clear n0_ n1_ n2_ n3_ n4_ n5_))
                    go_roundw
                    case rel => exact ⟨4, rfl, ⟨by omega⟩, ⟨by rw [← HW.out]; exact BS.out⟩, BK0, BW, HR2, HLE2, HB⟩
                    case measure => simp [intOf]
                · clear hq
                  have k0 : wr.cell? ⟨gs, 8, none⟩ = some (.func (.func 43) #[] #[]) := (blk_cell BS.out 8).trans rfl
                  have k1 : wr.cell? ⟨gs, 9, none⟩ = some (.int .i64 s4) := (blk_cell BS.out 9).trans rfl
                  have k2 := blk_frozen BS.out 9
                  have v0 : wr.cell? ⟨gw, 0, none⟩ = some (.string y.f0) := (blk_cell BW.out 0).trans rfl; have v1 : wr.cell? ⟨gw, 1, none⟩ = some (.int .i64 y.f1) := (blk_cell BW.out 1).trans rfl; have v2 : wr.cell? ⟨gw, 2, none⟩ = some (.bool y.f2) := (blk_cell BW.out 2).trans rfl; have v3 : wr.cell? ⟨gw, 3, none⟩ = some (.bool y.f3) := (blk_cell BW.out 3).trans rfl; have v4 : wr.cell? ⟨gw, 4, none⟩ = some (.bool y.f4) := (blk_cell BW.out 4).trans rfl; have v5 : wr.cell? ⟨gw, 5, none⟩ = some (.int .i64 y.f5) := (blk_cell BW.out 5).trans rfl
                  obtain ⟨b, hb⟩ : ∃ b, b = g5 y := ⟨_, rfl⟩
                  have HC := Aside0.mk hb
                  cases b with
                  | true =>
                    have HW := Aside0.mk (show wrap64 (s4 + c) = u4 by have := W4.out; rw [← hb, if_pos rfl] at this; exact this)
                    clear hb
                    go_wp2
                    go_still_tail 6, (by kernel_rfl)
                    go_wp2_with (first
                      | (go_at_call 43; (with_reducible refine (ofc_5 y true HC.out _).mono ?_); rintro e w14 ⟨rfl, hb⟩; have n0_ := Aside0.mk (below_step (below_drew HB.out) hb); have n1_ := Aside0.mk (blk_below (show wr.drew.heap[gs]? = _ from BS.out) hb); have n2_ := Aside0.mk (blk_below (show wr.drew.heap[g0]? = _ from BK0.out) hb); have n3_ := Aside0.mk (blk_below (show wr.drew.heap[gw]? = _ from BW.out) hb); have n4_ := Aside0.mk ((show wageMK.Ranges wr.drew mb rb 128 m (done ++ [(x, c)]) from HR2.out).kept (grown_of_below hb none) (by simp) (by simp)); have n5_ := Aside0.mk (n4_.out.2.trans (show wr.drew.rangeLeft mb rb = w1.rangeLeft mb rb from HLE2.out)); clear HB BS BK0 BW HR2 HLE2 hb k0 k1 k2 v0 v1 v2 v3 v4 v5; have HB := n0_; have BS := n1_; have BK0 := n2_; have BW := n3_; have HR2 := Aside0.mk n4_.out.1; have HLE2 := n5_; clear n0_ n1_ n2_ n3_ n4_ n5_; have k1 : w14.cell? ⟨gs, 9, none⟩ = some (.int .i64 s4) := (blk_cell BS.out 9).trans rfl; have k2 := blk_frozen BS.out 9))
                    go_roundw
                    case rel => exact ⟨5, rfl, ⟨by omega⟩, ⟨by rw [← HW.out]; exact blk_put BS.out 9 _ rfl⟩, ⟨blkOf_far BK0.out NE0.out _⟩, ⟨blkOf_far BW.out (Ne.symm NWS.out) _⟩, ⟨rng_far HR2.out NES.out NER.out _⟩, ⟨(left_far HR2.out NES.out NER.out _).trans HLE2.out⟩, ⟨below_set HB.out GES.out⟩⟩
                    case measure => simp [intOf]
                  | false =>
                    have HW := Aside0.mk (show s4 = u4 by have := W4.out; rw [← hb, if_neg (by simp)] at this; exact this)
                    clear hb
                    go_wp2
                    go_still_tail 6, (by kernel_rfl)
                    go_wp2_with (first
                      | (go_at_call 43; (with_reducible refine (ofc_5 y false HC.out _).mono ?_); rintro e w14 ⟨rfl, hb⟩; have n0_ := Aside0.mk (below_step (below_drew HB.out) hb); have n1_ := Aside0.mk (blk_below (show wr.drew.heap[gs]? = _ from BS.out) hb); have n2_ := Aside0.mk (blk_below (show wr.drew.heap[g0]? = _ from BK0.out) hb); have n3_ := Aside0.mk (blk_below (show wr.drew.heap[gw]? = _ from BW.out) hb); have n4_ := Aside0.mk ((show wageMK.Ranges wr.drew mb rb 128 m (done ++ [(x, c)]) from HR2.out).kept (grown_of_below hb none) (by simp) (by simp)); have n5_ := Aside0.mk (n4_.out.2.trans (show wr.drew.rangeLeft mb rb = w1.rangeLeft mb rb from HLE2.out)); clear HB BS BK0 BW HR2 HLE2 hb k0 k1 k2 v0 v1 v2 v3 v4 v5; have HB := n0_; have BS := n1_; have BK0 := n2_; have BW := n3_; have HR2 := Aside0.mk n4_.out.1; have HLE2 := n5_; clear n0_ n1_ n2_ n3_ n4_ n5_))
                    go_roundw
                    case rel => exact ⟨5, rfl, ⟨by omega⟩, ⟨by rw [← HW.out]; exact BS.out⟩, BK0, BW, HR2, HLE2, HB⟩
                    case measure => simp [intOf]
                · clear hq
                  go_wp2
                  go_roundw
                  case rel => exact ⟨done ++ [(x, c)], HR2, HD2, ⟨by rw [← HU.out.1, ← HU.out.2.1, ← HU.out.2.2.1, ← HU.out.2.2.2.1, ← HU.out.2.2.2.2]; exact BS.out⟩, BK0, HB⟩
                  case measure => exact (show _ < _ from by rw [HLE2.out]; exact HLT.out)
      · rw [if_neg c4] at h; cases h
    · rw [if_neg c3] at h
      have c3b0 : (t == 0) = false := beq_eq_false_iff_ne.mpr c3
      have c3b1 : (t != 0) = true := bne_iff_ne.mpr c3
      simp only [Option.some.injEq, Prod.mk.injEq] at h
      obtain ⟨rfl, rfl, rfl, rfl, rfl, rfl⟩ := h
      clear c3
      go_enter Try.func28, Try.ntmps28
      go_wp2_with (first
        | ((with_reducible refine gate_dst (N := 4) rfl ?_); refine box_event ?hg (N := 4) ?hd (cs := #[.int .i64 0, .int .i64 0, .int .i64 0, .int .i64 0, .int .i64 0]) (t := 52) ?hr ?_; (case hd => rfl); (case hg => rfl); (case hr => first | (go_simp; done) | (go_simp; rfl)); intro g0 hg w7 hbox hb; have n0_ := Aside0.mk (below_step HB.out hb); have GE0 := Aside0.mk ((by rw [hg]; exact below_size HB.out) : w.heap.size ≤ g0); have BK0 := Aside0.mk hbox; clear HB; have HB := n0_; clear n0_ hb hg hbox)
        | ((with_reducible refine gate_callee (f := 15) rfl ?_); refine goesL_ (some 17) rfl rfl Try.func15 (by kernel_rfl) rfl #[.slice A0 l0.length c0] rfl (by (try simp only [List.map_toArray, List.map_cons, List.map_nil]); first | done | rfl) ?_; (with_reducible refine (wage_Valid.calls k _ _ l0 true _ ?side1 ?side2 A1_.out).mono ?_); (case side1 => exact Kd.C_below HR0.out HB.out); (case side2 => exact HC0.out); rintro e w4 ⟨rfl, hb⟩; refine ⟨_, rfl, ?_⟩; have n1_ := Aside0.mk (blk_below BK0.out hb); have n0_ := Aside0.mk (below_step HB.out hb); clear HB BK0; have HB := n0_; have BK0 := n1_; clear n0_ n1_ hb; have hz0 : w4.cell? ⟨g0, 0, none⟩ = some (.int .i64 0) := (blk_cell BK0.out 0).trans rfl; have hf0 := blk_frozen BK0.out 0; have hz1 : w4.cell? ⟨g0, 1, none⟩ = some (.int .i64 0) := (blk_cell BK0.out 1).trans rfl; have hf1 := blk_frozen BK0.out 1; have hz2 : w4.cell? ⟨g0, 2, none⟩ = some (.int .i64 0) := (blk_cell BK0.out 2).trans rfl; have hf2 := blk_frozen BK0.out 2; have hz3 : w4.cell? ⟨g0, 3, none⟩ = some (.int .i64 0) := (blk_cell BK0.out 3).trans rfl; have hf3 := blk_frozen BK0.out 3; have hz4 : w4.cell? ⟨g0, 4, none⟩ = some (.int .i64 0) := (blk_cell BK0.out 4).trans rfl; have hf4 := blk_frozen BK0.out 4)
        | ((with_reducible refine gate_callee (f := 35) rfl ?_); refine goesL_ (some 22) rfl rfl Try.func35 (by kernel_rfl) rfl #[.slice A1 l1.length c1] rfl (by (try simp only [List.map_toArray, List.map_cons, List.map_nil]); first | done | rfl) ?_; (with_reducible refine (wage_sums.calls k _ _ l1 m t _ ?side1 ?side2 A2_.out).mono ?_); (case side1 => exact Kd.C_below HR1.out HB.out); (case side2 => exact HC1.out); rintro e w8 ⟨v, rfl, hm, hb⟩; refine ⟨_, rfl, ?_⟩; have n1_ := Aside0.mk (blk_below BK0.out hb); have n0_ := Aside0.mk (below_step HB.out hb); clear HB BK0 hz0 hz1 hz2 hz3 hz4 hf0 hf1 hf2 hf3 hf4; have HB := n0_; have BK0 := n1_; clear n0_ n1_ hb hm; have hz0 : w8.cell? ⟨g0, 0, none⟩ = some (.int .i64 0) := (blk_cell BK0.out 0).trans rfl; have hf0 := blk_frozen BK0.out 0; have hz1 : w8.cell? ⟨g0, 1, none⟩ = some (.int .i64 0) := (blk_cell BK0.out 1).trans rfl; have hf1 := blk_frozen BK0.out 1; have hz2 : w8.cell? ⟨g0, 2, none⟩ = some (.int .i64 0) := (blk_cell BK0.out 2).trans rfl; have hf2 := blk_frozen BK0.out 2; have hz3 : w8.cell? ⟨g0, 3, none⟩ = some (.int .i64 0) := (blk_cell BK0.out 3).trans rfl; have hf3 := blk_frozen BK0.out 3; have hz4 : w8.cell? ⟨g0, 4, none⟩ = some (.int .i64 0) := (blk_cell BK0.out 4).trans rfl; have hf4 := blk_frozen BK0.out 4))
      refine bodyPost_ret (results_ct rfl _ _ g0 52 #[.int .i64 0, .int .i64 0, .int .i64 0, .int .i64 0, .int .i64 0] (0, 0) _ rfl (by refine blk_put (cs := #[.int .i64 0, .int .i64 0, .int .i64 0, .int .i64 0, .int .i64 0]) ?_ 4 _ rfl; refine blk_put (cs := #[.int .i64 0, .int .i64 0, .int .i64 0, .int .i64 0, .int .i64 0]) ?_ 3 _ rfl; refine blk_put (cs := #[.int .i64 0, .int .i64 0, .int .i64 0, .int .i64 0, .int .i64 0]) ?_ 2 _ rfl; refine blk_put (cs := #[.int .i64 0, .int .i64 0, .int .i64 0, .int .i64 0, .int .i64 0]) ?_ 1 _ rfl; refine blk_put (cs := #[.int .i64 0, .int .i64 0, .int .i64 0, .int .i64 0, .int .i64 0]) ?_ 0 _ rfl; exact BK0.out) Try.underlying52 rfl (by kernel_rfl)) rfl ?_
      exact ⟨by first | rfl | (simp [*] <;> rfl), (by repeat (first | exact HB.out | apply pw_below_drewN | refine below_set ?_ GE0.out))⟩
end OfExt

/-! ### payrolllaw26_awake: function 11 -/
def payrolllaw26_awake.f (k : Nat)  : Option (Bool) := (some (([(⟨(⟨#[98, 97, 115, 101]⟩ : ByteArray), 1, true, true, true, 4000⟩ : S31), (⟨(⟨#[99, 97, 114]⟩ : ByteArray), 2, true, false, false, 4001⟩ : S31)] : List (S31)) : List (S31))).bind fun y113 => ((wage_Of.f k y113 (([(⟨(⟨#[98, 97, 115, 101]⟩ : ByteArray), 3000⟩ : S44), (⟨(⟨#[99, 97, 114]⟩ : ByteArray), 200⟩ : S44)] : List (S44)))).bind fun bt119 => ((wage_Merge.f k (([(⟨(⟨#[97]⟩ : ByteArray), 5⟩ : S44), (⟨(⟨#[98]⟩ : ByteArray), 1⟩ : S44), (⟨(⟨#[97]⟩ : ByteArray), (-5)⟩ : S44)] : List (S44)))).bind fun bt129 => ((wage_Valid.f k y113).bind fun t133 => (if t133 = true then (if bt119.2.2.2.2.2 = 0 then (if (bt119.1 == 3200 && (bt119.2.1 == 3000 && (bt119.2.2.1 == 3200 && (bt119.2.2.2.1 == 3000 && (bt119.2.2.2.2.1 == 3000))))) = true then (if bt129.2 = 0 then (if (bt129.1.length : Int) = 1 then (if 0 < (bt129.1.length : Int) then (some (((rd_T44 bt129.1 0).f0).toList == ([98] : List UInt8))) else (none)) else (none)) else (none)) else (none)) else (none)) else (none)))))
theorem payrolllaw26_awake.mono : ∀ k, LeO (payrolllaw26_awake.f k ) (payrolllaw26_awake.f (k + 1) ) := by
  intro  k
  unfold payrolllaw26_awake.f
  repeat' first
      | (with_reducible exact wage_Merge.mono _ _)
      | (with_reducible exact wage_Of.mono _ _ _)
      | (with_reducible exact wage_Valid.mono _ _)
      | (with_reducible exact LeO.refl _)
      | (with_reducible exact LeO.none _)
      | (with_reducible refine LeO.ite ?_ ?_)
      | (with_reducible refine LeO.bind ?_ (fun _ => ?_))
      | exact wage_Merge.mono _ _
      | exact wage_Of.mono _ _ _
      | exact wage_Valid.mono _ _
      | exact LeO.none _
      | refine LeO.ite ?_ ?_
      | refine LeO.bind ?_ (fun _ => ?_)
set_option maxHeartbeats 8000000 in
set_option maxRecDepth 100000 in
theorem payrolllaw26_awake.calls (k : Nat)  (r : Bool) (w : World) (h : payrolllaw26_awake.f k  = some r) :
    Calls Try.prog 11 #[] w fun e w' => e = .returned (.bool r) ∧ Below w.heap.size w w' := by
  have hu31 := Try.underlying31
  have hu44 := Try.underlying44
  have hu52 := Try.underlying52
  have HB := Aside0.mk (Below.refl w.heap.size w)
  have H : ((some (([(⟨(⟨#[98, 97, 115, 101]⟩ : ByteArray), 1, true, true, true, 4000⟩ : S31), (⟨(⟨#[99, 97, 114]⟩ : ByteArray), 2, true, false, false, 4001⟩ : S31)] : List (S31)) : List (S31))).bind fun y113 => ((wage_Of.f k y113 (([(⟨(⟨#[98, 97, 115, 101]⟩ : ByteArray), 3000⟩ : S44), (⟨(⟨#[99, 97, 114]⟩ : ByteArray), 200⟩ : S44)] : List (S44)))).bind fun bt119 => ((wage_Merge.f k (([(⟨(⟨#[97]⟩ : ByteArray), 5⟩ : S44), (⟨(⟨#[98]⟩ : ByteArray), 1⟩ : S44), (⟨(⟨#[97]⟩ : ByteArray), (-5)⟩ : S44)] : List (S44)))).bind fun bt129 => ((wage_Valid.f k y113).bind fun t133 => (if t133 = true then (if bt119.2.2.2.2.2 = 0 then (if (bt119.1 == 3200 && (bt119.2.1 == 3000 && (bt119.2.2.1 == 3200 && (bt119.2.2.2.1 == 3000 && (bt119.2.2.2.2.1 == 3000))))) = true then (if bt129.2 = 0 then (if (bt129.1.length : Int) = 1 then (if 0 < (bt129.1.length : Int) then (some (((rd_T44 bt129.1 0).f0).toList == ([98] : List UInt8))) else (none)) else (none)) else (none)) else (none)) else (none)) else (none)))))) = some r := h
  clear h
  obtain ⟨y113, hy113⟩ : ∃ y_ : List (S31), y_ = (([(⟨(⟨#[98, 97, 115, 101]⟩ : ByteArray), 1, true, true, true, 4000⟩ : S31), (⟨(⟨#[99, 97, 114]⟩ : ByteArray), 2, true, false, false, 4001⟩ : S31)] : List (S31))) := ⟨_, rfl⟩
  replace H : ((wage_Of.f k y113 (([(⟨(⟨#[98, 97, 115, 101]⟩ : ByteArray), 3000⟩ : S44), (⟨(⟨#[99, 97, 114]⟩ : ByteArray), 200⟩ : S44)] : List (S44)))).bind fun bt119 => ((wage_Merge.f k (([(⟨(⟨#[97]⟩ : ByteArray), 5⟩ : S44), (⟨(⟨#[98]⟩ : ByteArray), 1⟩ : S44), (⟨(⟨#[97]⟩ : ByteArray), (-5)⟩ : S44)] : List (S44)))).bind fun bt129 => ((wage_Valid.f k y113).bind fun t133 => (if t133 = true then (if bt119.2.2.2.2.2 = 0 then (if (bt119.1 == 3200 && (bt119.2.1 == 3000 && (bt119.2.2.1 == 3200 && (bt119.2.2.2.1 == 3000 && (bt119.2.2.2.2.1 == 3000))))) = true then (if bt129.2 = 0 then (if (bt129.1.length : Int) = 1 then (if 0 < (bt129.1.length : Int) then (some (((rd_T44 bt129.1 0).f0).toList == ([98] : List UInt8))) else (none)) else (none)) else (none)) else (none)) else (none)) else (none))))) = some r := by first | (rw [hy113]; with_reducible exact H) | (have H2_ := (Option.bind_some _ _).symm.trans H; rw [hy113]; with_reducible exact H2_) | (have H2_ := (Option.bind_some _ _).symm.trans H; with_reducible exact H2_) | with_reducible exact H | (rw [hy113]; exact H) | exact H
  have Ny113 := Aside0.mk hy113
  clear hy113
  obtain ⟨y116, hy116⟩ : ∃ y_ : List (S44), y_ = (([(⟨(⟨#[98, 97, 115, 101]⟩ : ByteArray), 3000⟩ : S44), (⟨(⟨#[99, 97, 114]⟩ : ByteArray), 200⟩ : S44)] : List (S44))) := ⟨_, rfl⟩
  replace H : ((wage_Of.f k y113 y116).bind fun bt119 => ((wage_Merge.f k (([(⟨(⟨#[97]⟩ : ByteArray), 5⟩ : S44), (⟨(⟨#[98]⟩ : ByteArray), 1⟩ : S44), (⟨(⟨#[97]⟩ : ByteArray), (-5)⟩ : S44)] : List (S44)))).bind fun bt129 => ((wage_Valid.f k y113).bind fun t133 => (if t133 = true then (if bt119.2.2.2.2.2 = 0 then (if (bt119.1 == 3200 && (bt119.2.1 == 3000 && (bt119.2.2.1 == 3200 && (bt119.2.2.2.1 == 3000 && (bt119.2.2.2.2.1 == 3000))))) = true then (if bt129.2 = 0 then (if (bt129.1.length : Int) = 1 then (if 0 < (bt129.1.length : Int) then (some (((rd_T44 bt129.1 0).f0).toList == ([98] : List UInt8))) else (none)) else (none)) else (none)) else (none)) else (none)) else (none))))) = some r := by first | (rw [hy116]; with_reducible exact H) | (have H2_ := (Option.bind_some _ _).symm.trans H; rw [hy116]; with_reducible exact H2_) | (have H2_ := (Option.bind_some _ _).symm.trans H; with_reducible exact H2_) | with_reducible exact H | (rw [hy116]; exact H) | exact H
  have Ny116 := Aside0.mk hy116
  clear hy116
  replace H := Option.bind_eq_some_iff.mp H
  obtain ⟨⟨t119, t120, t121, t122, t123, t124⟩, A10, H⟩ := H
  replace H : ((wage_Merge.f k (([(⟨(⟨#[97]⟩ : ByteArray), 5⟩ : S44), (⟨(⟨#[98]⟩ : ByteArray), 1⟩ : S44), (⟨(⟨#[97]⟩ : ByteArray), (-5)⟩ : S44)] : List (S44)))).bind fun bt129 => ((wage_Valid.f k y113).bind fun t133 => (if t133 = true then (if t124 = 0 then (if (t119 == 3200 && (t120 == 3000 && (t121 == 3200 && (t122 == 3000 && (t123 == 3000))))) = true then (if bt129.2 = 0 then (if (bt129.1.length : Int) = 1 then (if 0 < (bt129.1.length : Int) then (some (((rd_T44 bt129.1 0).f0).toList == ([98] : List UInt8))) else (none)) else (none)) else (none)) else (none)) else (none)) else (none)))) = some r := H
  have A1 := Aside0.mk A10
  clear A10
  obtain ⟨y126, hy126⟩ : ∃ y_ : List (S44), y_ = (([(⟨(⟨#[97]⟩ : ByteArray), 5⟩ : S44), (⟨(⟨#[98]⟩ : ByteArray), 1⟩ : S44), (⟨(⟨#[97]⟩ : ByteArray), (-5)⟩ : S44)] : List (S44))) := ⟨_, rfl⟩
  replace H : ((wage_Merge.f k y126).bind fun bt129 => ((wage_Valid.f k y113).bind fun t133 => (if t133 = true then (if t124 = 0 then (if (t119 == 3200 && (t120 == 3000 && (t121 == 3200 && (t122 == 3000 && (t123 == 3000))))) = true then (if bt129.2 = 0 then (if (bt129.1.length : Int) = 1 then (if 0 < (bt129.1.length : Int) then (some (((rd_T44 bt129.1 0).f0).toList == ([98] : List UInt8))) else (none)) else (none)) else (none)) else (none)) else (none)) else (none)))) = some r := by first | (rw [hy126]; with_reducible exact H) | (have H2_ := (Option.bind_some _ _).symm.trans H; rw [hy126]; with_reducible exact H2_) | (have H2_ := (Option.bind_some _ _).symm.trans H; with_reducible exact H2_) | with_reducible exact H | (rw [hy126]; exact H) | exact H
  have Ny126 := Aside0.mk hy126
  clear hy126
  replace H := Option.bind_eq_some_iff.mp H
  obtain ⟨⟨t129, t130⟩, A20, H⟩ := H
  replace H : ((wage_Valid.f k y113).bind fun t133 => (if t133 = true then (if t124 = 0 then (if (t119 == 3200 && (t120 == 3000 && (t121 == 3200 && (t122 == 3000 && (t123 == 3000))))) = true then (if t130 = 0 then (if (t129.length : Int) = 1 then (if 0 < (t129.length : Int) then (some (((rd_T44 t129 0).f0).toList == ([98] : List UInt8))) else (none)) else (none)) else (none)) else (none)) else (none)) else (none))) = some r := H
  have A2 := Aside0.mk A20
  clear A20
  replace H := Option.bind_eq_some_iff.mp H
  obtain ⟨t133, A30, H⟩ := H
  replace H : (if t133 = true then (if t124 = 0 then (if (t119 == 3200 && (t120 == 3000 && (t121 == 3200 && (t122 == 3000 && (t123 == 3000))))) = true then (if t130 = 0 then (if (t129.length : Int) = 1 then (if 0 < (t129.length : Int) then (some (((rd_T44 t129 0).f0).toList == ([98] : List UInt8))) else (none)) else (none)) else (none)) else (none)) else (none)) else (none)) = some r := H
  have A3 := Aside0.mk A30
  clear A30
  by_cases c4 : t133 = true
  · subst c4
    have H1 : (if t124 = 0 then (if (t119 == 3200 && (t120 == 3000 && (t121 == 3200 && (t122 == 3000 && (t123 == 3000))))) = true then (if t130 = 0 then (if (t129.length : Int) = 1 then (if 0 < (t129.length : Int) then (some (((rd_T44 t129 0).f0).toList == ([98] : List UInt8))) else (none)) else (none)) else (none)) else (none)) else (none)) = some r := by rw [if_pos rfl] at H; exact H
    clear H
    have H := H1
    clear H1
    by_cases c5 : t124 = 0
    · rw [if_pos c5] at H
      have c5b0 : (t124 == 0) = true := beq_iff_eq.mpr c5
      have c5b1 : (t124 != 0) = false := bne_eq_false_iff_eq.mpr c5
      clear c5
      by_cases c6 : (t119 == 3200 && (t120 == 3000 && (t121 == 3200 && (t122 == 3000 && (t123 == 3000))))) = true
      · rw [if_pos c6] at H
        have c6b0 : (t119 == 3200 && (t120 == 3000 && (t121 == 3200 && (t122 == 3000 && (t123 == 3000))))) = true := c6
        (try (have c6b1 : decide (t119 = 3200 && (t120 == 3000 && (t121 == 3200 && (t122 == 3000 && (t123 == 3000))))) = true := by simpa using c6))
        (try (have c6b2 : (t119 == 3200 && (t120 == 3000 && (t121 == 3200 && (t122 == 3000 && (t123 == 3000))))) = true := by simpa using c6))
        clear c6
        by_cases c7 : t130 = 0
        · rw [if_pos c7] at H
          have c7b0 : (t130 == 0) = true := beq_iff_eq.mpr c7
          have c7b1 : (t130 != 0) = false := bne_eq_false_iff_eq.mpr c7
          clear c7
          by_cases c8 : (t129.length : Int) = 1
          · rw [if_pos c8] at H
            have c8b0 : ((t129.length : Int) == 1) = true := beq_iff_eq.mpr c8
            have c8b1 : ((t129.length : Int) != 1) = false := bne_eq_false_iff_eq.mpr c8
            clear c8
            by_cases c9 : 0 < (t129.length : Int)
            · rw [if_pos c9] at H
              have c9b0 : decide (0 < (t129.length : Int)) = true := decide_eq_true c9
              have c9b1 : decide (0 < t129.length) = true := decide_eq_true (by omega)
              clear c9
              obtain rfl := Option.some.inj H
              go_enter Try.func11, Try.ntmps11
              go_wp2_with (first | ((with_reducible refine gate_dst (N := 8) rfl ?_); (try (refine gate_guard (by rfl) ?_; dsimp only)); refine Kd.R_lit k31 _ 31 ?hg (N := 8) ?hd (xs := ([(⟨(⟨#[98, 97, 115, 101]⟩ : ByteArray), 1, true, true, true, 4000⟩ : S31), (⟨(⟨#[99, 97, 114]⟩ : ByteArray), 2, true, false, false, 4001⟩ : S31)] : List (S31))) (inner := [.string (⟨#[98, 97, 115, 101]⟩ : ByteArray), .int .i64 1, .bool true, .bool true, .bool true, .int .i64 4000, .string (⟨#[99, 97, 114]⟩ : ByteArray), .int .i64 2, .bool true, .bool false, .bool false, .int .i64 4001]) (ok := fun _ => True) (okp := fun _ => True) ?hr ?hp (fun _ hk => hk) trivial (Below.refl _ _) (Nat.le_refl _) (by simp) ?_; (case hd => rfl); (case hg => rfl); (case hr => first | (go_simp; done) | (go_simp; rfl)); (case hp => exact (Reps.c6 (show Kd.M k31 _ _ _ (⟨(⟨#[98, 97, 115, 101]⟩ : ByteArray), 1, true, true, true, 4000⟩ : S31) [.string (⟨#[98, 97, 115, 101]⟩ : ByteArray), .int .i64 1, .bool true, .bool true, .bool true, .int .i64 4000] from (k31_mkM _ _ _ (⟨(⟨#[98, 97, 115, 101]⟩ : ByteArray), 1, true, true, true, 4000⟩ : S31) )) (Reps.c6 (show Kd.M k31 _ _ _ (⟨(⟨#[99, 97, 114]⟩ : ByteArray), 2, true, false, false, 4001⟩ : S31) [.string (⟨#[99, 97, 114]⟩ : ByteArray), .int .i64 2, .bool true, .bool false, .bool false, .int .i64 4001] from (k31_mkM _ _ _ (⟨(⟨#[99, 97, 114]⟩ : ByteArray), 2, true, false, false, 4001⟩ : S31) )) (Reps.none _ _)))); intro v114 w10 ho11 hb hg_ hnew_; clear hg_ hnew_; (first | rw [← Ny113.out] at ho11 | (simp only [Int.reduceToNat] at ho11; rw [← Ny113.out] at ho11)); have n0_ := Aside0.mk (Kd.R_lower ho11 (below_size (by repeat (first | (with_reducible first | exact HB.out | apply below_alloc | apply pw_below_drewN | apply below_drew1) | exact HB.out)))); have n1_ := Aside0.mk (below_step (by repeat (first | (with_reducible first | exact HB.out | apply below_alloc | apply pw_below_drewN | apply below_drew1) | exact HB.out)) hb); clear HB; have HO115 := n0_; have HB := n1_; clear n0_ n1_; clear hb ho11) | ((with_reducible refine gate_dst (N := 13) rfl ?_); (try (refine gate_guard (by rfl) ?_; dsimp only)); refine Kd.R_lit k44 _ 44 ?hg (N := 13) ?hd (xs := ([(⟨(⟨#[98, 97, 115, 101]⟩ : ByteArray), 3000⟩ : S44), (⟨(⟨#[99, 97, 114]⟩ : ByteArray), 200⟩ : S44)] : List (S44))) (inner := [.string (⟨#[98, 97, 115, 101]⟩ : ByteArray), .int .i64 3000, .string (⟨#[99, 97, 114]⟩ : ByteArray), .int .i64 200]) (ok := fun _ => True) (okp := fun _ => True) ?hr ?hp (fun _ hk => hk) trivial (Below.refl _ _) (Nat.le_refl _) (by simp) ?_; (case hd => rfl); (case hg => rfl); (case hr => first | (go_simp; done) | (go_simp; rfl)); (case hp => exact (Reps.c2 (show Kd.M k44 _ _ _ (⟨(⟨#[98, 97, 115, 101]⟩ : ByteArray), 3000⟩ : S44) [.string (⟨#[98, 97, 115, 101]⟩ : ByteArray), .int .i64 3000] from (k44_mkM _ _ _ (⟨(⟨#[98, 97, 115, 101]⟩ : ByteArray), 3000⟩ : S44) )) (Reps.c2 (show Kd.M k44 _ _ _ (⟨(⟨#[99, 97, 114]⟩ : ByteArray), 200⟩ : S44) [.string (⟨#[99, 97, 114]⟩ : ByteArray), .int .i64 200] from (k44_mkM _ _ _ (⟨(⟨#[99, 97, 114]⟩ : ByteArray), 200⟩ : S44) )) (Reps.none _ _)))); intro v117 w12 ho13 hb hg_ hnew_; clear hg_ hnew_; (first | rw [← Ny116.out] at ho13 | (simp only [Int.reduceToNat] at ho13; rw [← Ny116.out] at ho13)); have n0_ := Aside0.mk (Kd.R_below (by (with_reducible repeat (first | apply Kd.R_alloc | apply Kd.R_drewN | apply Kd.R_drew)); exact HO115.out) hb); have n1_ := Aside0.mk (Kd.R_lower ho13 (below_size (by repeat (first | (with_reducible first | exact HB.out | apply below_alloc | apply pw_below_drewN | apply below_drew1) | exact HB.out)))); have n2_ := Aside0.mk (below_step (by repeat (first | (with_reducible first | exact HB.out | apply below_alloc | apply pw_below_drewN | apply below_drew1) | exact HB.out)) hb); clear HO115; clear HB; have HO115 := n0_; have HO118 := n1_; have HB := n2_; clear n0_ n1_ n2_; clear hb ho13; obtain ⟨Ao14, co14, eo14⟩ := Kd.R_slice HO115.out; subst eo14; obtain ⟨Ao15, co15, eo15⟩ := Kd.R_slice HO118.out; subst eo15) | ((with_reducible refine gate_callee (f := 28) rfl ?_); refine goesL_ (some 14) rfl rfl Try.func28 (by kernel_rfl) rfl #[.slice Ao14 y113.length co14, .slice Ao15 y116.length co15] rfl (by (try simp only [List.map_toArray, List.map_cons, List.map_nil]); first | done | rfl | (simp only [List.length_drop, List.length_take]; rfl)) ?_; (with_reducible refine (wage_Of.calls k _ _ y113 _ _ y116 t119 t120 t121 t122 t123 t124 _ ?side1 ?side2 ?side3 ?side4 A1.out).mono ?_); (case side1 => repeat (first | exact (Kd.R_reads' HO115.out).2.2 | (with_reducible refine Kd.C_alloc ?_ _) | (with_reducible refine Kd.C_drewN ?_ _) | (with_reducible refine Kd.C_drew ?_))); (case side2 => exact (Kd.R_reads' HO115.out).2.1); (case side3 => repeat (first | exact (Kd.R_reads' HO118.out).2.2 | (with_reducible refine Kd.C_alloc ?_ _) | (with_reducible refine Kd.C_drewN ?_ _) | (with_reducible refine Kd.C_drew ?_))); (case side4 => exact (Kd.R_reads' HO118.out).2.1); rintro e w16 ⟨rfl, hb⟩; refine ⟨_, rfl, ?_⟩; have n0_ := Aside0.mk (Kd.R_below (by (with_reducible repeat (first | apply Kd.R_alloc | apply Kd.R_drewN | apply Kd.R_drew)); exact HO115.out) hb); have n1_ := Aside0.mk (Kd.R_below (by (with_reducible repeat (first | apply Kd.R_alloc | apply Kd.R_drewN | apply Kd.R_drew)); exact HO118.out) hb); have n2_ := Aside0.mk (below_step (by repeat (first | (with_reducible first | exact HB.out | apply below_alloc | apply pw_below_drewN | apply below_drew1) | exact HB.out)) hb); clear HO115; clear HO118; clear HB; have HO115 := n0_; have HO118 := n1_; have HB := n2_; clear n0_ n1_ n2_; (try clear hb); (try clear hb2); (try clear hk); (try clear hi)) | ((with_reducible refine gate_dst (N := 2) rfl ?_); (try (refine gate_guard (by rfl) ?_; dsimp only)); refine box_event ?hg (N := 2) ?hd (cs := #[.int .i64 0, .int .i64 0, .int .i64 0, .int .i64 0, .int .i64 0]) (t := 52) ?hr ?_; (case hd => rfl); (case hg => rfl); (case hr => first | (go_simp; done) | (go_simp; rfl)); intro gb125 hg w17 hbox hb; have n0_ := Aside0.mk (Kd.R_below (by (with_reducible repeat (first | apply Kd.R_alloc | apply Kd.R_drewN | apply Kd.R_drew)); exact HO115.out) hb); have n1_ := Aside0.mk (Kd.R_below (by (with_reducible repeat (first | apply Kd.R_alloc | apply Kd.R_drewN | apply Kd.R_drew)); exact HO118.out) hb); have n2_ := Aside0.mk (below_step (by repeat (first | (with_reducible first | exact HB.out | apply below_alloc | apply pw_below_drewN | apply below_drew1) | exact HB.out)) hb); have n3_ := Aside0.mk (hbox); have n4_ := Aside0.mk ((by rw [hg]; exact (below_size (by repeat (first | (with_reducible first | exact HB.out | apply below_alloc | apply pw_below_drewN | apply below_drew1) | exact HB.out))) : w.heap.size ≤ gb125)); have n5_ := Aside0.mk ((by rw [hg]; exact (below_size (by repeat (first | (with_reducible first | exact HB.out | apply below_alloc | apply pw_below_drewN | apply below_drew1) | exact HB.out))) : w.heap.size ≤ gb125)); clear HO115; clear HO118; clear HB; have HO115 := n0_; have HO118 := n1_; have HB := n2_; have BK125 := n3_; have GW125 := n4_; have GE125 := n5_; clear n0_ n1_ n2_ n3_ n4_ n5_; clear hb hbox hg; have hcz18_0 : w17.cell? ⟨gb125, 0, none⟩ = some (.int .i64 0) := (blk_cell BK125.out 0).trans rfl; have hcz18_1 : w17.cell? ⟨gb125, 1, none⟩ = some (.int .i64 0) := (blk_cell BK125.out 1).trans rfl; have hcz18_2 : w17.cell? ⟨gb125, 2, none⟩ = some (.int .i64 0) := (blk_cell BK125.out 2).trans rfl; have hcz18_3 : w17.cell? ⟨gb125, 3, none⟩ = some (.int .i64 0) := (blk_cell BK125.out 3).trans rfl; have hcz18_4 : w17.cell? ⟨gb125, 4, none⟩ = some (.int .i64 0) := (blk_cell BK125.out 4).trans rfl; have hfz18_0 := blk_frozen BK125.out 0; have hfz18_1 := blk_frozen BK125.out 1; have hfz18_2 := blk_frozen BK125.out 2; have hfz18_3 := blk_frozen BK125.out 3; have hfz18_4 := blk_frozen BK125.out 4) | ((with_reducible refine gate_dst (N := 21) rfl ?_); (try (refine gate_guard (by rfl) ?_; dsimp only)); refine Kd.R_lit k44 _ 44 ?hg (N := 21) ?hd (xs := ([(⟨(⟨#[97]⟩ : ByteArray), 5⟩ : S44), (⟨(⟨#[98]⟩ : ByteArray), 1⟩ : S44), (⟨(⟨#[97]⟩ : ByteArray), (-5)⟩ : S44)] : List (S44))) (inner := [.string (⟨#[97]⟩ : ByteArray), .int .i64 5, .string (⟨#[98]⟩ : ByteArray), .int .i64 1, .string (⟨#[97]⟩ : ByteArray), .int .i64 (-5)]) (ok := fun _ => True) (okp := fun _ => True) ?hr ?hp (fun _ hk => hk) trivial (Below.refl _ _) (Nat.le_refl _) (by simp) ?_; (case hd => rfl); (case hg => rfl); (case hr => first | (go_simp; done) | (go_simp; rfl)); (case hp => exact (Reps.c2 (show Kd.M k44 _ _ _ (⟨(⟨#[97]⟩ : ByteArray), 5⟩ : S44) [.string (⟨#[97]⟩ : ByteArray), .int .i64 5] from (k44_mkM _ _ _ (⟨(⟨#[97]⟩ : ByteArray), 5⟩ : S44) )) (Reps.c2 (show Kd.M k44 _ _ _ (⟨(⟨#[98]⟩ : ByteArray), 1⟩ : S44) [.string (⟨#[98]⟩ : ByteArray), .int .i64 1] from (k44_mkM _ _ _ (⟨(⟨#[98]⟩ : ByteArray), 1⟩ : S44) )) (Reps.c2 (show Kd.M k44 _ _ _ (⟨(⟨#[97]⟩ : ByteArray), (-5)⟩ : S44) [.string (⟨#[97]⟩ : ByteArray), .int .i64 (-5)] from (k44_mkM _ _ _ (⟨(⟨#[97]⟩ : ByteArray), (-5)⟩ : S44) )) (Reps.none _ _))))); intro v127 w19 ho20 hb hg_ hnew_; clear hg_ hnew_; (first | rw [← Ny126.out] at ho20 | (simp only [Int.reduceToNat] at ho20; rw [← Ny126.out] at ho20)); have n0_ := Aside0.mk (Kd.R_below (by (with_reducible repeat (first | apply Kd.R_alloc | apply Kd.R_drewN | apply Kd.R_drew)); exact (Kd.R_mono (Kd.R_far (p := ⟨gb125, 4, none⟩) (Kd.R_far (p := ⟨gb125, 3, none⟩) (Kd.R_far (p := ⟨gb125, 2, none⟩) (Kd.R_far (p := ⟨gb125, 1, none⟩) (Kd.R_far (p := ⟨gb125, 0, none⟩) (Kd.R_types HO115.out BK125.out (by decide)) (fun _ hk => hk.2) (.int .i64 t119)) (fun _ hk => hk.2) (.int .i64 t120)) (fun _ hk => hk.2) (.int .i64 t121)) (fun _ hk => hk.2) (.int .i64 t122)) (fun _ hk => hk.2) (.int .i64 t123)) (fun _ h_ => h_.1))) hb); have n1_ := Aside0.mk (Kd.R_elder' (by (with_reducible repeat (first | apply Kd.R_alloc | apply Kd.R_drewN | apply Kd.R_drew)); exact (Kd.R_mono (Kd.R_far (p := ⟨gb125, 4, none⟩) (Kd.R_far (p := ⟨gb125, 3, none⟩) (Kd.R_far (p := ⟨gb125, 2, none⟩) (Kd.R_far (p := ⟨gb125, 1, none⟩) (Kd.R_far (p := ⟨gb125, 0, none⟩) (Kd.R_types HO118.out BK125.out (by decide)) (fun _ hk => hk.2) (.int .i64 t119)) (fun _ hk => hk.2) (.int .i64 t120)) (fun _ hk => hk.2) (.int .i64 t121)) (fun _ hk => hk.2) (.int .i64 t122)) (fun _ hk => hk.2) (.int .i64 t123)) (fun _ h_ => h_.1))) (Kd.R_base ho20) hb); have n2_ := Aside0.mk (Kd.R_lower (Kd.R_new' ho20 (Kd.R_lt (by (with_reducible repeat (first | apply Kd.R_alloc | apply Kd.R_drewN | apply Kd.R_drew)); exact (Kd.R_mono (Kd.R_far (p := ⟨gb125, 4, none⟩) (Kd.R_far (p := ⟨gb125, 3, none⟩) (Kd.R_far (p := ⟨gb125, 2, none⟩) (Kd.R_far (p := ⟨gb125, 1, none⟩) (Kd.R_far (p := ⟨gb125, 0, none⟩) (Kd.R_types HO118.out BK125.out (by decide)) (fun _ hk => hk.2) (.int .i64 t119)) (fun _ hk => hk.2) (.int .i64 t120)) (fun _ hk => hk.2) (.int .i64 t121)) (fun _ hk => hk.2) (.int .i64 t122)) (fun _ hk => hk.2) (.int .i64 t123)) (fun _ h_ => h_.1))))) (below_size (by repeat (first | (with_reducible first | exact HB.out | apply below_alloc | apply pw_below_drewN | apply below_drew1 | refine below_set ?_ GE125.out) | exact HB.out)))); have n3_ := Aside0.mk (blk_below (g := gb125) (o := .cells #[.int .i64 t119, .int .i64 t120, .int .i64 t121, .int .i64 t122, .int .i64 t123] 52 (0, 0)) (by (with_reducible repeat (first | refine blk_drewN ?_ _ | refine blk_drew ?_ | refine blk_alloc ?_ _)); refine blk_put (cs := #[.int .i64 t119, .int .i64 t120, .int .i64 t121, .int .i64 t122, .int .i64 0]) ?_ 4 _ rfl; (with_reducible repeat (first | refine blk_drewN ?_ _ | refine blk_drew ?_ | refine blk_alloc ?_ _)); refine blk_put (cs := #[.int .i64 t119, .int .i64 t120, .int .i64 t121, .int .i64 0, .int .i64 0]) ?_ 3 _ rfl; (with_reducible repeat (first | refine blk_drewN ?_ _ | refine blk_drew ?_ | refine blk_alloc ?_ _)); refine blk_put (cs := #[.int .i64 t119, .int .i64 t120, .int .i64 0, .int .i64 0, .int .i64 0]) ?_ 2 _ rfl; (with_reducible repeat (first | refine blk_drewN ?_ _ | refine blk_drew ?_ | refine blk_alloc ?_ _)); refine blk_put (cs := #[.int .i64 t119, .int .i64 0, .int .i64 0, .int .i64 0, .int .i64 0]) ?_ 1 _ rfl; (with_reducible repeat (first | refine blk_drewN ?_ _ | refine blk_drew ?_ | refine blk_alloc ?_ _)); refine blk_put (cs := #[.int .i64 0, .int .i64 0, .int .i64 0, .int .i64 0, .int .i64 0]) ?_ 0 _ rfl; (with_reducible repeat (first | refine blk_drewN ?_ _ | refine blk_drew ?_ | refine blk_alloc ?_ _)); exact BK125.out) hb); have n4_ := Aside0.mk (below_step (by repeat (first | (with_reducible first | exact HB.out | apply below_alloc | apply pw_below_drewN | apply below_drew1 | refine below_set ?_ GE125.out) | exact HB.out)) hb); clear HO115; clear HO118; clear BK125; clear HB; have HO115 := n0_; have HO118 := n1_; have HO128 := n2_; have BK125 := n3_; have HB := n4_; clear n0_ n1_ n2_ n3_ n4_; clear hb ho20; obtain ⟨Ao21, co21, eo21⟩ := Kd.R_slice HO128.out; subst eo21) | ((with_reducible refine gate_callee (f := 24) rfl ?_); refine goesL_ (some 22) rfl rfl Try.func24 (by kernel_rfl) rfl #[.slice Ao21 y126.length co21] rfl (by (try simp only [List.map_toArray, List.map_cons, List.map_nil]); first | done | rfl | (simp only [List.length_drop, List.length_take]; rfl)) ?_; (with_reducible refine (wage_Merge.calls k _ _ y126 t129 t130 _ ?side1 ?side2 A2.out).mono ?_); (case side1 => repeat (first | exact (Kd.R_reads' HO128.out).2.2 | (with_reducible refine Kd.C_alloc ?_ _) | (with_reducible refine Kd.C_drewN ?_ _) | (with_reducible refine Kd.C_drew ?_))); (case side2 => exact (Kd.R_reads' HO128.out).2.1); rintro e w22 ⟨v131, rfl, ho0, hb⟩; refine ⟨_, rfl, ?_⟩; have n0_ := Aside0.mk (Kd.R_below (by (with_reducible repeat (first | apply Kd.R_alloc | apply Kd.R_drewN | apply Kd.R_drew)); exact HO115.out) hb); have n1_ := Aside0.mk (Kd.R_elder' (by (with_reducible repeat (first | apply Kd.R_alloc | apply Kd.R_drewN | apply Kd.R_drew)); exact HO118.out) (Kd.R_base ho0) hb); have n2_ := Aside0.mk (Kd.R_elder' (by (with_reducible repeat (first | apply Kd.R_alloc | apply Kd.R_drewN | apply Kd.R_drew)); exact HO128.out) (Kd.R_base ho0) hb); have n3_ := Aside0.mk (Kd.R_lower (Kd.R_new' (Kd.R_new' ho0 (Kd.R_lt (by (with_reducible repeat (first | apply Kd.R_alloc | apply Kd.R_drewN | apply Kd.R_drew)); exact HO118.out))) (Kd.R_lt (by (with_reducible repeat (first | apply Kd.R_alloc | apply Kd.R_drewN | apply Kd.R_drew)); exact HO128.out))) (below_size (by repeat (first | (with_reducible first | exact HB.out | apply below_alloc | apply pw_below_drewN | apply below_drew1 | refine below_set ?_ GE125.out) | exact HB.out)))); have n4_ := Aside0.mk (blk_below (g := gb125) (o := .cells #[.int .i64 t119, .int .i64 t120, .int .i64 t121, .int .i64 t122, .int .i64 t123] 52 (0, 0)) (by (with_reducible repeat (first | refine blk_drewN ?_ _ | refine blk_drew ?_ | refine blk_alloc ?_ _)); exact BK125.out) hb); have n5_ := Aside0.mk (below_step (by repeat (first | (with_reducible first | exact HB.out | apply below_alloc | apply pw_below_drewN | apply below_drew1 | refine below_set ?_ GE125.out) | exact HB.out)) hb); clear HO115; clear HO118; clear HO128; clear BK125; clear HB; have HO115 := n0_; have HO118 := n1_; have HO128 := n2_; have HO132 := n3_; have BK125 := n4_; have HB := n5_; clear n0_ n1_ n2_ n3_ n4_ n5_; (try clear hb); (try clear hb2); (try clear hk); (try clear hi); (try clear ho0)) | ((with_reducible refine gate_callee (f := 15) rfl ?_); refine goesL_ (some 26) rfl rfl Try.func15 (by kernel_rfl) rfl #[.slice Ao14 y113.length co14] rfl (by (try simp only [List.map_toArray, List.map_cons, List.map_nil]); first | done | rfl | (simp only [List.length_drop, List.length_take]; rfl)) ?_; (with_reducible refine (wage_Valid.calls k _ _ y113 true _ ?side1 ?side2 A3.out).mono ?_); (case side1 => repeat (first | exact (Kd.R_reads' HO115.out).2.2 | (with_reducible refine Kd.C_alloc ?_ _) | (with_reducible refine Kd.C_drewN ?_ _) | (with_reducible refine Kd.C_drew ?_))); (case side2 => exact (Kd.R_reads' HO115.out).2.1); rintro e w23 ⟨rfl, hb⟩; refine ⟨_, rfl, ?_⟩; have n0_ := Aside0.mk (Kd.R_below (by (with_reducible repeat (first | apply Kd.R_alloc | apply Kd.R_drewN | apply Kd.R_drew)); exact HO115.out) hb); have n1_ := Aside0.mk (Kd.R_below (by (with_reducible repeat (first | apply Kd.R_alloc | apply Kd.R_drewN | apply Kd.R_drew)); exact HO118.out) hb); have n2_ := Aside0.mk (Kd.R_below (by (with_reducible repeat (first | apply Kd.R_alloc | apply Kd.R_drewN | apply Kd.R_drew)); exact HO128.out) hb); have n3_ := Aside0.mk (Kd.R_below (by (with_reducible repeat (first | apply Kd.R_alloc | apply Kd.R_drewN | apply Kd.R_drew)); exact HO132.out) hb); have n4_ := Aside0.mk (blk_below (g := gb125) (o := .cells #[.int .i64 t119, .int .i64 t120, .int .i64 t121, .int .i64 t122, .int .i64 t123] 52 (0, 0)) (by (with_reducible repeat (first | refine blk_drewN ?_ _ | refine blk_drew ?_ | refine blk_alloc ?_ _)); exact BK125.out) hb); have n5_ := Aside0.mk (below_step (by repeat (first | (with_reducible first | exact HB.out | apply below_alloc | apply pw_below_drewN | apply below_drew1 | refine below_set ?_ GE125.out) | exact HB.out)) hb); clear HO115; clear HO118; clear HO128; clear HO132; clear BK125; clear HB; have HO115 := n0_; have HO118 := n1_; have HO128 := n2_; have HO132 := n3_; have BK125 := n4_; have HB := n5_; clear n0_ n1_ n2_ n3_ n4_ n5_; (try clear hb); (try clear hb2); (try clear hk); (try clear hi); have hcz24_0 : w23.cell? ⟨gb125, 0, none⟩ = some (.int .i64 t119) := (blk_cell BK125.out 0).trans rfl; have hcz24_1 : w23.cell? ⟨gb125, 1, none⟩ = some (.int .i64 t120) := (blk_cell BK125.out 1).trans rfl; have hcz24_2 : w23.cell? ⟨gb125, 2, none⟩ = some (.int .i64 t121) := (blk_cell BK125.out 2).trans rfl; have hcz24_3 : w23.cell? ⟨gb125, 3, none⟩ = some (.int .i64 t122) := (blk_cell BK125.out 3).trans rfl; have hcz24_4 : w23.cell? ⟨gb125, 4, none⟩ = some (.int .i64 t123) := (blk_cell BK125.out 4).trans rfl; have hfz24_0 := blk_frozen BK125.out 0; have hfz24_1 := blk_frozen BK125.out 1; have hfz24_2 := blk_frozen BK125.out 2; have hfz24_3 := blk_frozen BK125.out 3; have hfz24_4 := blk_frozen BK125.out 4; obtain ⟨Ao25, co25, eo25⟩ := Kd.R_slice HO132.out; subst eo25; have p134 : 0 ≤ (0 : Int) := (by omega); have q134 : 0 < (t129.length : Int) := of_decide_eq_true (by first | (with_reducible assumption) | assumption); obtain ⟨ad134, e134, hx134_0, hx134_1⟩ := at_T44 (Kd.R_reads' HO132.out).2.2 0 p134 q134; cases e134; have qi134 : (0 < t129.length) = True := eq_true (by omega); (try rw [show ((0 : Int)).toNat = 0 from rfl] at hx134_0); (try rw [show 0 * 2 = 0 from rfl] at hx134_0); (try rw [Addr.add_zero'] at hx134_0); (try rw [show ((0 : Int)).toNat = 0 from rfl] at hx134_1); (try rw [show 0 * 2 = 0 from rfl] at hx134_1); (try rw [Addr.add_zero'] at hx134_1); replace p134 := eq_true p134; replace q134 := eq_true q134))
              go_ret
              exact ⟨by first | rfl | (simp [errW_none, errW_some] <;> rfl) | (simp [*, errW_none, errW_some] <;> rfl), by repeat (first | (with_reducible first | exact HB.out | apply below_alloc | apply pw_below_drewN | apply below_drew1 | refine below_set ?_ GE125.out) | exact HB.out)⟩
            · rw [if_neg c9] at H
              exact absurd H (by simp)
          · rw [if_neg c8] at H
            exact absurd H (by simp)
        · rw [if_neg c7] at H
          exact absurd H (by simp)
      · rw [if_neg c6] at H
        exact absurd H (by simp)
    · rw [if_neg c5] at H
      exact absurd H (by simp)
  · replace c4 := Bool.eq_false_iff.mpr c4
    subst c4
    have H1 : (none) = some r := by rw [if_neg (show ¬ (false = true) by decide)] at H; exact H
    clear H
    have H := H1
    clear H1
    exact absurd H (by simp)

/-! ### paygen_Mod: function 14 -/
def paygen_Mod.f (a0 : Int) (a1 : Int) : Option (Int) := if a1 = 0 then (none) else (if (Int.tmod a0 a1) < 0 then (some (wrap64 ((Int.tmod a0 a1) + a1))) else (some (Int.tmod a0 a1)))
set_option maxHeartbeats 8000000 in
set_option maxRecDepth 100000 in
theorem paygen_Mod.calls (a0 : Int) (a1 : Int) (r : Int) (w : World) (h : paygen_Mod.f a0 a1 = some r) :
    Calls Try.prog 14 #[.int .i64 a0, .int .i64 a1] w fun e w' => e = .returned (.int .i64 r) ∧ Drawn0 w w' := by
  have H : (if a1 = 0 then (none) else (if (Int.tmod a0 a1) < 0 then (some (wrap64 ((Int.tmod a0 a1) + a1))) else (some (Int.tmod a0 a1)))) = some r := h
  clear h
  by_cases c3 : a1 = 0
  · rw [if_pos c3] at H
    exact absurd H (by simp)
  · rw [if_neg c3] at H
    have c3b0 : (a1 == 0) = false := beq_eq_false_iff_ne.mpr c3
    have c3b1 : (a1 != 0) = true := bne_iff_ne.mpr c3
    by_cases c4 : (Int.tmod a0 a1) < 0
    · rw [if_pos c4] at H
      have c4b0 : decide ((Int.tmod a0 a1) < 0) = true := decide_eq_true c4
      clear c4
      obtain rfl := Option.some.inj H
      go_enter Try.func14, Try.ntmps14
      go_wp2
      go_ret
      exact ⟨by first | rfl | (simp; done) | (simp [*]; done), by repeat (first | exact Drawn0.refl _ | apply Drawn0.step)⟩
    · rw [if_neg c4] at H
      have c4b0 : decide ((Int.tmod a0 a1) < 0) = false := decide_eq_false c4
      clear c4
      obtain rfl := Option.some.inj H
      go_enter Try.func14, Try.ntmps14
      go_wp2
      go_ret
      exact ⟨by first | rfl | (simp; done) | (simp [*]; done), by repeat (first | exact Drawn0.refl _ | apply Drawn0.step)⟩

end Go.Proofs.Ytbmcddmhfnnccaa.Q
