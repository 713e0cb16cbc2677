/- A box that is made and filled at once: its block is known whole. -/
import Derived.Deep.MidRow
import Derived.Test.YtbmcddmhfnnccaaWWords
namespace Go.Proofs.YtbmcddmhfnnccaaW.PrintWords
open Go.RowKit
theorem setCells_blk (b : Nat) (t : TypeId) : ∀ (vs pre old : List Value) (w : World), old.length = vs.length → w.heap[b]? = some (.cells (pre ++ old).toArray t (0, 0)) → (w.setCells b pre.length vs).heap[b]? = some (.cells (pre ++ vs).toArray t (0, 0))
  | [], pre, old, w, hl, h => by
    have : old = [] := List.length_eq_zero_iff.1 hl
    subst this; exact h
  | v :: r, pre, [], w, hl, h => by simp at hl
  | v :: r, pre, o :: old, w, hl, h => by
    have h2 := blk_set h pre.length v
    have e : ((pre ++ o :: old).toArray).setIfInBounds pre.length v = ((pre ++ [v]) ++ old).toArray := by
      apply Array.ext'; simp [List.set_append]
    rw [e] at h2
    have := setCells_blk b t r (pre ++ [v]) old _ (by simpa using hl) h2
    rw [World.setCells]
    simpa using this
theorem setCells_below {w : World} {b : Nat} (hg : w.heap.size ≤ b) : ∀ (vs : List Value) (o : Nat) (W : World), Below w.heap.size w W → Below w.heap.size w (W.setCells b o vs)
  | [], _, _, h => h
  | v :: r, o, W, h => setCells_below hg r (o + 1) _ (below_set h hg)
/-- A box that is made and filled at once. -/
theorem box_store {P : Program} {ops : Array Oper} {rest : List Oper} {o1 o2 : Oper} {a : Act} {Q : Exit → Act → World → Prop} {W : World} (hg1 : o1.guard = none) {N : Tmp} (hd1 : o1.dst = some N) (ty : TypeId) {z : Array Value}
    (hrun : (execOp a.eval o1).run P W = .ok (.value (.pointer (some ⟨W.heap.size, 0, none⟩))) (W.alloc (.cells z ty (0, 0))))
    (hg2 : o2.guard = none) (hd2 : o2.dst = none) (x y : Operand) (ho2 : o2.op = .store ty x y) (cells : Array Value) (hx : (a.put o1.dst (.pointer (some ⟨W.heap.size, 0, none⟩))).eval x = .pointer (some ⟨W.heap.size, 0, none⟩))
    (hy : (a.put o1.dst (.pointer (some ⟨W.heap.size, 0, none⟩))).eval y = .agg cells) (hz : z.size = cells.size) (hi : (P.info? ty).map (·.size) = some cells.size) (h1 : cells.all (·.oneCell') = true)
    (h : ∀ g, g = W.heap.size → ∀ w1, w1.heap[g]? = some (.cells cells ty (0, 0)) → Below W.heap.size W w1 → wpList P ops Q rest (a.put o1.dst (.pointer (some ⟨g, 0, none⟩))) w1) : wpList P ops Q (o1 :: o2 :: rest) a W := by
  refine Kd.event_run hg1 hrun ?_
  have hb : (W.alloc (.cells z ty (0, 0))).heap[W.heap.size]? = some (.cells z ty (0, 0)) := blk_new W _
  refine wpList_store_mid hg2 ty x y ho2 W.heap.size 0 cells hx hy (fun j hj => ⟨?_, ?_⟩) hi h1 ?_
  · rw [Nat.zero_add, blk_cell hb, Array.getElem?_eq_getElem (by omega)]; rfl
  · rw [Nat.zero_add]; exact blk_frozen hb j
  · rw [hd2]
    refine h _ rfl _ ?_ ?_
    · have := setCells_blk W.heap.size ty cells.toList [] z.toList (W.alloc (.cells z ty (0, 0))) (by simpa using hz) (by simpa using hb)
      simpa using this
    · exact setCells_below (Nat.le_refl _) _ _ _ (below_alloc (Below.refl _ _) _)
end Go.Proofs.YtbmcddmhfnnccaaW.PrintWords
