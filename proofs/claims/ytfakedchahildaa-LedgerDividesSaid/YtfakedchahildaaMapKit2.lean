/- Maps with string keys; the operation of a map literal; the order of strings. -/
import Derived.Test.YtfakedchahildaaListKit
import Derived.StringKeys
import Derived.Laws.Strings
namespace Go.Proofs.Ytfakedchahildaa.MapKit
open Go.RowKit Go.Maps
section
variable {P : Program} {t kt et : TypeId} {κ β : Type} [DecidableEq κ] (w : World) {ops : Array Oper} {rest : List Oper} {o : Oper} {a : Act} {Q : Exit → Act → World → Prop}
/-- An entry of a map literal. -/
theorem MK.insert_op (M : MK P t kt et κ β) (hg : o.guard = none) (mo x v : Operand) (hop : o.op = Op.insert t mo x v) (b n : Nat) (m : List (κ × β))
    (hm : a.eval mo = .map (some b)) (his : M.Is w b n m) (hn : n < maxLen) (k : κ) (c : β) (hx : a.eval x = M.val k) (hk : M.okk k) (hv : a.eval v = M.ev c) (hc : M.okv c)
    (m' : List (κ × β)) (hm' : ∀ y, m'.lookup y = if y = k then some c else m.lookup y)
    (hK : ∀ w', M.Is w' b (n + 1) m' → w.grownBy w' (some b) → wpList P ops Q rest (a.put o.dst undef) w') : wpList P ops Q (o :: rest) a w := by
  obtain ⟨D, hown, hA⟩ := his
  refine wpList_plain hg fun K' hK' => ?_
  obtain ⟨w', hrun, r1, r2⟩ := hown.update M.K M.ht hn (M.key k hk) (M.elem c hc)
  have hA' : M.Agree (D.put (M.lit k) (M.ed c)) m' := by
    have hD : IsMap D := by
      obtain ⟨es, _, _, _, _, rfl⟩ := hown
      exact ⟨_, rfl⟩
    exact hA.put M hD k c hk hm'
  unfold Oper.wp
  simp [execOp, hop, hm, hx, hv, hrun, Result.andThen]
  exact hK' _ _ (hK w' ⟨_, r1, hA'⟩ r2)
end
/-- A string as a key: two keys are the same if their bytes are. -/
structure Str where
  s : ByteArray
theorem Str.inj {x y : Str} (h : x.s = y.s) : x = y := by cases x; cases y; cases h; rfl
instance : DecidableEq Str := fun x y => if h : x.s = y.s then isTrue (Str.inj h) else isFalse (fun e => h (by rw [e]))
variable {P : Program} {t kt et : TypeId}
/-- Keys of string, elements of int. -/
def MK.si (P : Program) (t kt et : TypeId) (qe : IntKind) (hk : P.underlying kt = some .string) (he : P.underlying et = some (.int qe)) (ht : P.underlying t = some (.map kt et)) : MK P t kt et Str Int where
  val x := Value.string x.s
  lit x := Lit.string x.s.data.toList
  okk x := x.s.size ≤ maxLen
  ev := Value.int qe
  ed c := .lit (.int qe c)
  okv c := (Lit.int qe c).wf = true
  R := plainElem P et
  K := string_keyed hk
  ht := ht
  key x h := WideMaps.keyOf_string_mk hk h
  ikey v l h := by obtain ⟨x, e, e2, hw⟩ := WideMaps.string_of_keyOf hk h; exact ⟨⟨x⟩, hw, e, e2⟩
  inj x y _ _ h := by injection h with h; exact Str.inj (ByteArray.ext (Array.toList_inj.1 h))
  isKey x := trivial
  elem v h := plainElem_int he h
  ielem v y h := by obtain ⟨c, e, e2, hw⟩ := plainElem_int_inv he h; exact ⟨c, hw, e, e2⟩
  einj a b h := by injection h with h; injection h
theorem bool_elem_inv {H : Type} {e : TypeId} (he : P.underlying e = some .bool) {v : Value} {z : DataW H × List MemPlace} (h : plainElem P e v = some z) : ∃ b : Bool, v = .bool b ∧ z = (.lit (.bool b), []) := by
  unfold plainElem at h
  rw [he] at h
  cases v <;> simp at h
  exact ⟨_, rfl, h.symm⟩
/-- Keys of string, elements of bool. -/
def MK.sb (P : Program) (t kt et : TypeId) (hk : P.underlying kt = some .string) (he : P.underlying et = some .bool) (ht : P.underlying t = some (.map kt et)) : MK P t kt et Str Bool where
  val x := Value.string x.s
  lit x := Lit.string x.s.data.toList
  okk x := x.s.size ≤ maxLen
  ev := Value.bool
  ed c := .lit (.bool c)
  okv _ := True
  R := plainElem P et
  K := string_keyed hk
  ht := ht
  key x h := WideMaps.keyOf_string_mk hk h
  ikey v l h := by obtain ⟨x, e, e2, hw⟩ := WideMaps.string_of_keyOf hk h; exact ⟨⟨x⟩, hw, e, e2⟩
  inj x y _ _ h := by injection h with h; exact Str.inj (ByteArray.ext (Array.toList_inj.1 h))
  isKey x := trivial
  elem v _ := plainElem_bool he v
  ielem v y h := by obtain ⟨c, e, e2⟩ := bool_elem_inv he h; exact ⟨c, trivial, e, e2⟩
  einj a b h := by injection h with h; injection h
section
variable (w : World) {ops : Array Oper} {rest : List Oper} {o : Oper} {a : Act} {Q : Exit → Act → World → Prop} {qe : IntKind} (hk : P.underlying kt = some .string)
section
variable (he : P.underlying et = some (.int qe)) (ht : P.underlying t = some (.map kt et))
end
section
variable (he : P.underlying et = some .bool) (ht : P.underlying t = some (.map kt et))
theorem lookup_sb (hg : o.guard = none) (mo x : Operand) (hop : o.op = Op.lookup t mo x false) (hz : (zeroValue et).run P w = .ok (.bool false) w) (b n : Nat) (m : List (Str × Bool))
    (hm : a.eval mo = .map (some b)) (his : (MK.sb P t kt et hk he ht).Is w b n m) (k : ByteArray) (hx : a.eval x = .string k) (hwk : k.size ≤ maxLen)
    (hK : wpList P ops Q rest (a.put o.dst (.bool ((m.lookup ⟨k⟩).getD false))) w) : wpList P ops Q (o :: rest) a w :=
  (MK.sb P t kt et hk he ht).lookup_op w hg mo x hop false hz trivial b n m hm his ⟨k⟩ hx hwk (fun _ => hK)
theorem insert_sb (hg : o.guard = none) (mo x v : Operand) (hop : o.op = Op.insert t mo x v) (b n : Nat) (m : List (Str × Bool))
    (hm : a.eval mo = .map (some b)) (his : (MK.sb P t kt et hk he ht).Is w b n m) (hn : n < maxLen) (k : ByteArray) (c : Bool) (hx : a.eval x = .string k) (hwk : k.size ≤ maxLen) (hv : a.eval v = .bool c)
    (hK : ∀ w', (MK.sb P t kt et hk he ht).Is w' b (n + 1) ((⟨k⟩, c) :: m) → w.grownBy w' (some b) → wpList P ops Q rest (a.put o.dst undef) w') : wpList P ops Q (o :: rest) a w :=
  (MK.sb P t kt et hk he ht).insert_op w hg mo x v hop b n m hm his hn ⟨k⟩ c hx hwk hv trivial _ (fun y => by
    by_cases h : y = (⟨k⟩ : Str)
    · subst h; simp [List.lookup]
    · have : (y == (⟨k⟩ : Str)) = false := beq_eq_false_iff_ne.2 h
      simp [List.lookup, h, this]) hK
end
end
end Go.Proofs.Ytfakedchahildaa.MapKit
namespace Go.Proofs.Ytfakedchahildaa.ListKit
open Go.Proofs.Ytfakedchahildaa.MapKit
/-- Strings by their bytes. -/
def ltB (x y : Str) : Bool := Op.bytesLess x.s.toList y.s.toList
theorem toList_inj {x y : ByteArray} (h : x.toList = y.toList) : x = y := by
  rw [ByteArray.toList_eq, ByteArray.toList_eq] at h
  exact ByteArray.ext (Array.toList_inj.1 h)
end Go.Proofs.Ytfakedchahildaa.ListKit
