/- Maps with string keys; the operation of a map literal; the order of strings. -/
import Derived.Test.YtbmcddmhfnnccaaListKit
import Derived.StringKeys
import Derived.Laws.Strings
namespace Go.Proofs.Ytbmcddmhfnnccaa.MapKit
open Go.RowKit Go.Maps
section
variable {P : Program} {t kt et : TypeId} {κ β : Type} [DecidableEq κ] (w : World) {ops : Array Oper} {rest : List Oper} {o : Oper} {a : Act} {Q : Exit → Act → World → Prop}
/-- An entry of a map literal. -/
theorem MK.insert_op (M : MK P t kt et κ β) (hg : o.guard = none) (mo x v : Operand) (hop : o.op = Op.insert t mo x v) (b n : Nat) (m : List (κ × β))
    (hm : a.eval mo = .map (some b)) (his : M.Is w b n m) (hn : n < maxLen) (k : κ) (c : β) (hx : a.eval x = M.val k) (hk : M.okk k) (hv : a.eval v = M.ev c) (hc : M.okv c)
    (m' : List (κ × β)) (hm' : ∀ y, m'.lookup y = if y = k then some c else m.lookup y)
    (hK : ∀ w', M.Is w' b (n + 1) m' → w.grownBy w' (some b) → wpList P ops Q rest (a.put o.dst undef) w') : wpList P ops Q (o :: rest) a w := by
  obtain ⟨D, hown, hA⟩ := his
  refine wpList_plain hg fun K' hK' => ?_
  obtain ⟨w', hrun, r1, r2⟩ := hown.update M.K M.ht hn (M.key k hk) (M.elem c hc)
  have hA' : M.Agree (D.put (M.lit k) (M.ed c)) m' := by
    have hD : IsMap D := by
      obtain ⟨es, _, _, _, _, rfl⟩ := hown
      exact ⟨_, rfl⟩
    exact hA.put M hD k c hk hm'
  unfold Oper.wp
  simp [execOp, hop, hm, hx, hv, hrun, Result.andThen]
  exact hK' _ _ (hK w' ⟨_, r1, hA'⟩ r2)
end
/-- A string as a key: two keys are the same if their bytes are. -/
structure Str where
  s : ByteArray
theorem Str.inj {x y : Str} (h : x.s = y.s) : x = y := by cases x; cases y; cases h; rfl
instance : DecidableEq Str := fun x y => if h : x.s = y.s then isTrue (Str.inj h) else isFalse (fun e => h (by rw [e]))
variable {P : Program} {t kt et : TypeId}
/-- Keys of string, elements of int. -/
def MK.si (P : Program) (t kt et : TypeId) (qe : IntKind) (hk : P.underlying kt = some .string) (he : P.underlying et = some (.int qe)) (ht : P.underlying t = some (.map kt et)) : MK P t kt et Str Int where
  val x := Value.string x.s
  lit x := Lit.string x.s.data.toList
  okk x := x.s.size ≤ maxLen
  ev := Value.int qe
  ed c := .lit (.int qe c)
  okv c := (Lit.int qe c).wf = true
  R := plainElem P et
  K := string_keyed hk
  ht := ht
  key x h := WideMaps.keyOf_string_mk hk h
  ikey v l h := by obtain ⟨x, e, e2, hw⟩ := WideMaps.string_of_keyOf hk h; exact ⟨⟨x⟩, hw, e, e2⟩
  inj x y _ _ h := by injection h with h; exact Str.inj (ByteArray.ext (Array.toList_inj.1 h))
  isKey x := trivial
  elem v h := plainElem_int he h
  ielem v y h := by obtain ⟨c, e, e2, hw⟩ := plainElem_int_inv he h; exact ⟨c, hw, e, e2⟩
  einj a b h := by injection h with h; injection h
theorem bool_elem_inv {H : Type} {e : TypeId} (he : P.underlying e = some .bool) {v : Value} {z : DataW H × List MemPlace} (h : plainElem P e v = some z) : ∃ b : Bool, v = .bool b ∧ z = (.lit (.bool b), []) := by
  unfold plainElem at h
  rw [he] at h
  cases v <;> simp at h
  exact ⟨_, rfl, h.symm⟩
/-- Keys of string, elements of bool. -/
def MK.sb (P : Program) (t kt et : TypeId) (hk : P.underlying kt = some .string) (he : P.underlying et = some .bool) (ht : P.underlying t = some (.map kt et)) : MK P t kt et Str Bool where
  val x := Value.string x.s
  lit x := Lit.string x.s.data.toList
  okk x := x.s.size ≤ maxLen
  ev := Value.bool
  ed c := .lit (.bool c)
  okv _ := True
  R := plainElem P et
  K := string_keyed hk
  ht := ht
  key x h := WideMaps.keyOf_string_mk hk h
  ikey v l h := by obtain ⟨x, e, e2, hw⟩ := WideMaps.string_of_keyOf hk h; exact ⟨⟨x⟩, hw, e, e2⟩
  inj x y _ _ h := by injection h with h; exact Str.inj (ByteArray.ext (Array.toList_inj.1 h))
  isKey x := trivial
  elem v _ := plainElem_bool he v
  ielem v y h := by obtain ⟨c, e, e2⟩ := bool_elem_inv he h; exact ⟨c, trivial, e, e2⟩
  einj a b h := by injection h with h; injection h
section
variable (w : World) {ops : Array Oper} {rest : List Oper} {o : Oper} {a : Act} {Q : Exit → Act → World → Prop} {qe : IntKind} (hk : P.underlying kt = some .string)
section
variable (he : P.underlying et = some (.int qe)) (ht : P.underlying t = some (.map kt et))
theorem lookup_si (hg : o.guard = none) (mo x : Operand) (hop : o.op = Op.lookup t mo x false) (hz : (zeroValue et).run P w = .ok (.int qe 0) w) (b n : Nat) (m : List (Str × Int))
    (hm : a.eval mo = .map (some b)) (his : (MK.si P t kt et qe hk he ht).Is w b n m) (k : ByteArray) (hx : a.eval x = .string k) (hwk : k.size ≤ maxLen)
    (hK : (Lit.int qe ((m.lookup ⟨k⟩).getD 0)).wf = true → wpList P ops Q rest (a.put o.dst (.int qe ((m.lookup ⟨k⟩).getD 0))) w) : wpList P ops Q (o :: rest) a w :=
  (MK.si P t kt et qe hk he ht).lookup_op w hg mo x hop 0 hz (by cases qe <;> rfl) b n m hm his ⟨k⟩ hx hwk hK
theorem update_si (hg : o.guard = none) (mo x v : Operand) (hop : o.op = Op.mapUpdate t mo x v) (b n : Nat) (m : List (Str × Int))
    (hm : a.eval mo = .map (some b)) (his : (MK.si P t kt et qe hk he ht).Is w b n m) (hn : n < maxLen) (k : ByteArray) (c : Int) (hx : a.eval x = .string k) (hwk : k.size ≤ maxLen) (hv : a.eval v = .int qe c) (hwc : (Lit.int qe c).wf = true)
    (m' : List (Str × Int)) (hm' : ∀ y, m'.lookup y = if y = ⟨k⟩ then some c else m.lookup y)
    (hK : ∀ w', (MK.si P t kt et qe hk he ht).Is w' b (n + 1) m' → w.grownBy w' (some b) → wpList P ops Q rest (a.put o.dst undef) w') : wpList P ops Q (o :: rest) a w :=
  (MK.si P t kt et qe hk he ht).update_op w hg mo x v hop b n m hm his hn ⟨k⟩ c hx hwk hv hwc m' hm' hK
theorem next_si (hg : o.guard = none) (it : Operand) (hop : o.op = Op.next it false) (b r n : Nat) (m done : List (Str × Int)) (hit : a.eval it = .pointer (some ⟨r, 0, none⟩)) (h : (MK.si P t kt et qe hk he ht).Ranges w b r n m done)
    (hDone : (∀ x, done.lookup x = m.lookup x) → wpList P ops Q rest (a.put o.dst (.tuple #[.bool false])) w)
    (hMore : ∀ (x : Str) (c : Int) (w' : World), x.s.size ≤ maxLen → (Lit.int qe c).wf = true → m.lookup x = some c → done.lookup x = none → (MK.si P t kt et qe hk he ht).Ranges w' b r n m (done ++ [(x, c)]) → w'.rangeLeft b r < w.rangeLeft b r →
      w.grownBy w' (some r) → w'.heap.size = w.heap.size → (Instr.entry (.pointer (some ⟨r, 0, none⟩))).run P w' = .ok (.tuple #[.string x.s, .int qe c]) w' → wpList P ops Q rest (a.put o.dst (.tuple #[.bool true, .string x.s, .int qe c])) w') :
    wpList P ops Q (o :: rest) a w :=
  (MK.si P t kt et qe hk he ht).next_op w hg it hop b r n m done hit h hDone hMore
end
section
variable (he : P.underlying et = some .bool) (ht : P.underlying t = some (.map kt et))
theorem lookup_sb (hg : o.guard = none) (mo x : Operand) (hop : o.op = Op.lookup t mo x false) (hz : (zeroValue et).run P w = .ok (.bool false) w) (b n : Nat) (m : List (Str × Bool))
    (hm : a.eval mo = .map (some b)) (his : (MK.sb P t kt et hk he ht).Is w b n m) (k : ByteArray) (hx : a.eval x = .string k) (hwk : k.size ≤ maxLen)
    (hK : wpList P ops Q rest (a.put o.dst (.bool ((m.lookup ⟨k⟩).getD false))) w) : wpList P ops Q (o :: rest) a w :=
  (MK.sb P t kt et hk he ht).lookup_op w hg mo x hop false hz trivial b n m hm his ⟨k⟩ hx hwk (fun _ => hK)
theorem insert_sb (hg : o.guard = none) (mo x v : Operand) (hop : o.op = Op.insert t mo x v) (b n : Nat) (m : List (Str × Bool))
    (hm : a.eval mo = .map (some b)) (his : (MK.sb P t kt et hk he ht).Is w b n m) (hn : n < maxLen) (k : ByteArray) (c : Bool) (hx : a.eval x = .string k) (hwk : k.size ≤ maxLen) (hv : a.eval v = .bool c)
    (hK : ∀ w', (MK.sb P t kt et hk he ht).Is w' b (n + 1) ((⟨k⟩, c) :: m) → w.grownBy w' (some b) → wpList P ops Q rest (a.put o.dst undef) w') : wpList P ops Q (o :: rest) a w :=
  (MK.sb P t kt et hk he ht).insert_op w hg mo x v hop b n m hm his hn ⟨k⟩ c hx hwk hv trivial _ (fun y => by
    by_cases h : y = (⟨k⟩ : Str)
    · subst h; simp [List.lookup]
    · have : (y == (⟨k⟩ : Str)) = false := beq_eq_false_iff_ne.2 h
      simp [List.lookup, h, this]) hK
end
end
end Go.Proofs.Ytbmcddmhfnnccaa.MapKit
namespace Go.Proofs.Ytbmcddmhfnnccaa.ListKit
open Go.Proofs.Ytbmcddmhfnnccaa.MapKit
/-- Strings by their bytes. -/
def ltB (x y : Str) : Bool := Op.bytesLess x.s.toList y.s.toList
theorem toList_inj {x y : ByteArray} (h : x.toList = y.toList) : x = y := by
  rw [ByteArray.toList_eq, ByteArray.toList_eq] at h
  exact ByteArray.ext (Array.toList_inj.1 h)
theorem less_irrefl : ∀ l : List UInt8, Op.bytesLess l l = false
  | [] => rfl
  | a :: l => by simp [Op.bytesLess, less_irrefl l]
theorem less_trans : ∀ a b c : List UInt8, Op.bytesLess a b = true → Op.bytesLess b c = true → Op.bytesLess a c = true
  | _, _, [], h, h2 => by cases ‹List UInt8› <;> simp [Op.bytesLess] at h2
  | [], _, _ :: _, _, _ => by simp [Op.bytesLess]
  | _ :: _, [], _ :: _, h, _ => by simp [Op.bytesLess] at h
  | x :: a, y :: b, z :: c, h, h2 => by
    simp only [Op.bytesLess, Bool.or_eq_true, decide_eq_true_eq, Bool.and_eq_true, beq_iff_eq] at h h2 ⊢
    rcases h with h | ⟨rfl, h⟩ <;> rcases h2 with h2 | ⟨rfl, h2⟩
    · exact .inl (UInt8.lt_trans h h2)
    · exact .inl h
    · exact .inl h2
    · exact .inr ⟨rfl, less_trans a b c h h2⟩
theorem less_total : ∀ a b : List UInt8, Op.bytesLess a b = false → a ≠ b → Op.bytesLess b a = true
  | [], [], _, h => absurd rfl h
  | _ :: _, [], _, _ => by simp [Op.bytesLess]
  | [], _ :: _, h, _ => by simp [Op.bytesLess] at h
  | x :: a, y :: b, h, h2 => by
    have h' : ¬ (Op.bytesLess (x :: a) (y :: b) = true) := by rw [h]; simp
    simp only [Op.bytesLess, Bool.or_eq_true, decide_eq_true_eq, Bool.and_eq_true, beq_iff_eq, not_or, not_and] at h' ⊢
    by_cases e : x = y
    · subst e
      refine .inr ⟨rfl, less_total a b ?_ (fun e => h2 (by rw [e]))⟩
      simpa using h'.2 rfl
    · left
      rcases UInt8.lt_or_lt_of_ne e with h3 | h3
      · exact absurd h3 h'.1
      · exact h3
theorem orderB : Order ltB := ⟨fun x => less_irrefl _, fun x y z h h2 => less_trans _ _ _ h h2, fun x y h hne => less_total _ _ h (fun e => hne (Str.inj (toList_inj e)))⟩
end Go.Proofs.Ytbmcddmhfnnccaa.ListKit
