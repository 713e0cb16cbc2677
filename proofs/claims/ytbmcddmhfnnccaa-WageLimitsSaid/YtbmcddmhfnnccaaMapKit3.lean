/- Maps whose keys are structs of two fields, each a number or a string. -/
import Derived.Test.YtbmcddmhfnnccaaMapKit2
import Derived.WideKeyArgs
import Derived.DeepKeys4
import Derived.WideKeyEntry
namespace Go.Proofs.Ytbmcddmhfnnccaa.MapKit
open Go.RowKit Go.Maps
/-- Two values: a pair with the equality of its fields. -/
structure Pr (α β : Type) where
  a : α
  b : β
theorem Pr.inj {α β : Type} {x y : Pr α β} (h : x.a = y.a) (h2 : x.b = y.b) : x = y := by cases x; cases y; cases h; cases h2; rfl
instance {α β : Type} [DecidableEq α] [DecidableEq β] : DecidableEq (Pr α β) := fun x y => if h : x.a = y.a ∧ x.b = y.b then isTrue (Pr.inj h.1 h.2) else isFalse (fun e => h (by rw [e]; exact ⟨rfl, rfl⟩))
/-- A key's field: how it is written and read. -/
structure FK (P : Program) (t : TypeId) (α : Type) where
  val : α → Value
  lit : α → Lit
  ok : α → Prop
  key : ∀ d x, ok x → P.keyLits (d + 1) t [val x] = some [lit x]
  ikey : ∀ d v l, P.keyLits (d + 1) t [v] = some l → ∃ x, ok x ∧ v = val x ∧ l = [lit x]
  inj : ∀ x y, val x = val y → x = y
def FK.int (P : Program) (t : TypeId) (q : IntKind) (h : P.underlying t = some (.int q)) : FK P t Int where
  val := Value.int q
  lit := Lit.int q
  ok x := (Lit.int q x).wf = true
  key d x hx := by simp [Program.keyLits, h, hx]
  ikey d v l hl := by
    unfold Program.keyLits at hl
    rw [h] at hl
    cases v <;> simp at hl
    obtain ⟨⟨rfl, hw⟩, rfl⟩ := hl
    exact ⟨_, hw, rfl, rfl⟩
  inj x y h := by injection h
def FK.str (P : Program) (t : TypeId) (h : P.underlying t = some .string) : FK P t Str where
  val x := Value.string x.s
  lit x := Lit.string x.s.data.toList
  ok x := x.s.size ≤ maxLen
  key d x hx := by simp [Program.keyLits, h, hx]
  ikey d v l hl := by
    unfold Program.keyLits at hl
    rw [h] at hl
    cases v <;> simp at hl
    obtain ⟨hw, rfl⟩ := hl
    exact ⟨⟨_⟩, hw, rfl, rfl⟩
  inj x y h := by injection h with h; exact Str.inj h
theorem keyOf_two {P : Program} {kt : TypeId} {f0 f1 : Field} (hk : P.underlying kt = some (.struct #[f0, f1])) (hn : (#[f0, f1].all (·.name != "_")) = true) (hc : P.cellsOf kt = 2) (h0 : f0.offset = 0) (h1 : f1.offset = 1)
    (c0 : P.cellsOf f0.type = 1) (c1 : P.cellsOf f1.type = 1) (hkt : P.keyType kt = true) (hs : 0 < P.types.size) (a b : Value) :
    ∃ d, keyOf P kt (.agg #[a, b]) = ((P.keyLits (d + 1) f0.type [a]).bind fun x => (P.keyLits (d + 1) f1.type [b]).map fun y => Lit.string (keyBytes (x ++ y))) := by
  obtain ⟨s, hs⟩ : ∃ s, P.types.size = s + 1 := ⟨P.types.size - 1, by omega⟩
  refine ⟨s, ?_⟩
  have hf : (Value.agg #[a, b]).formed P kt = true := by simp [Value.formed, hk, hc]
  unfold keyOf
  rw [hk]
  simp only [hkt, hf, Bool.and_self, if_true]
  rw [hs]
  conv => lhs; unfold Program.keyLits
  rw [hk]
  have hl : (Value.agg #[a, b]).cells.toList = [a, b] := rfl
  simp only [hl, hc, hn, List.length_cons, List.length_nil, and_self, if_true]
  simp only [List.mapM_cons, List.mapM_nil, h0, h1, c0, c1, List.drop_zero, List.drop_succ_cons, List.take_succ_cons, List.take_zero]
  cases P.keyLits (s + 1) f0.type [a] <;> cases P.keyLits (s + 1) f1.type [b] <;> simp
variable {P : Program} {t kt et : TypeId} {α α' : Type} [DecidableEq α] [DecidableEq α']
/-- Keys of two fields, elements of int. -/
def MK.pi (P : Program) (t kt et : TypeId) (qe : IntKind) {f0 f1 : Field} (F0 : FK P f0.type α) (F1 : FK P f1.type α') (K : Keyed P kt)
    (hk : P.underlying kt = some (.struct #[f0, f1])) (hn : (#[f0, f1].all (·.name != "_")) = true) (hc : P.cellsOf kt = 2) (h0 : f0.offset = 0) (h1 : f1.offset = 1)
    (c0 : P.cellsOf f0.type = 1) (c1 : P.cellsOf f1.type = 1) (hkt : P.keyType kt = true) (hs : 0 < P.types.size)
    (he : P.underlying et = some (.int qe)) (ht : P.underlying t = some (.map kt et)) : MK P t kt et (Pr α α') Int where
  val x := .agg #[F0.val x.a, F1.val x.b]
  lit x := .string (keyBytes [F0.lit x.a, F1.lit x.b])
  okk x := F0.ok x.a ∧ F1.ok x.b
  ev := Value.int qe
  ed c := .lit (.int qe c)
  okv c := (Lit.int qe c).wf = true
  R := plainElem P et
  K := K
  ht := ht
  key x h := by
    obtain ⟨d, hd⟩ := keyOf_two hk hn hc h0 h1 c0 c1 hkt hs (F0.val x.a) (F1.val x.b)
    rw [hd, F0.key d x.a h.1, F1.key d x.b h.2]
    rfl
  ikey v l h := by
    have hv : ∃ a b, v = .agg #[a, b] := by
      have hh := h
      unfold keyOf at hh
      rw [hk] at hh
      simp only [hkt, Bool.true_and] at hh
      by_cases hf : v.formed P kt = true
      · unfold Value.formed at hf
        rw [hk] at hf
        cases v <;> simp [hc] at hf
        rename_i cs
        obtain ⟨l⟩ := cs
        simp at hf
        match l, hf with
        | [a, b], _ => exact ⟨a, b, rfl⟩
      · rw [if_neg hf] at hh; cases hh
    obtain ⟨a, b, rfl⟩ := hv
    obtain ⟨d, hd⟩ := keyOf_two hk hn hc h0 h1 c0 c1 hkt hs a b
    rw [hd] at h
    obtain ⟨x0, hx0, h⟩ := Option.bind_eq_some_iff.1 h
    obtain ⟨y0, hy0, rfl⟩ := Option.map_eq_some_iff.1 h
    obtain ⟨x, hx, rfl, rfl⟩ := F0.ikey d _ _ hx0
    obtain ⟨y, hy, rfl, rfl⟩ := F1.ikey d _ _ hy0
    exact ⟨⟨x, y⟩, ⟨hx, hy⟩, rfl, rfl⟩
  inj x y hx hy e := by
    have key : ∀ x : Pr α α', F0.ok x.a ∧ F1.ok x.b → keyOf P kt (.agg #[F0.val x.a, F1.val x.b]) = some (.string (keyBytes [F0.lit x.a, F1.lit x.b])) := fun x h => by
      obtain ⟨d, hd⟩ := keyOf_two hk hn hc h0 h1 c0 c1 hkt hs (F0.val x.a) (F1.val x.b)
      rw [hd, F0.key d x.a h.1, F1.key d x.b h.2]
      rfl
    have := K.inj (key x hx) (e ▸ key y hy)
    simp only [Value.agg.injEq] at this
    have h2 := congrArg Array.toList this
    simp only [List.cons.injEq, and_true] at h2
    exact Pr.inj (F0.inj _ _ h2.1) (F1.inj _ _ h2.2)
  isKey x := trivial
  elem v h := plainElem_int he h
  ielem v y h := by obtain ⟨c, e, e2, hw⟩ := plainElem_int_inv he h; exact ⟨c, hw, e, e2⟩
  einj a b h := by injection h with h; injection h
end Go.Proofs.Ytbmcddmhfnnccaa.MapKit
