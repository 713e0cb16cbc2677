/- Maps whose keys are structs of two fields, each a number or a string. -/
import Derived.Test.YtfakedchahildaaMapKit2
import Derived.WideKeyArgs
import Derived.DeepKeys4
import Derived.WideKeyEntry
namespace Go.Proofs.Ytfakedchahildaa.MapKit
open Go.RowKit Go.Maps
/-- Two values: a pair with the equality of its fields. -/
structure Pr (α β : Type) where
  a : α
  b : β
theorem Pr.inj {α β : Type} {x y : Pr α β} (h : x.a = y.a) (h2 : x.b = y.b) : x = y := by cases x; cases y; cases h; cases h2; rfl
instance {α β : Type} [DecidableEq α] [DecidableEq β] : DecidableEq (Pr α β) := fun x y => if h : x.a = y.a ∧ x.b = y.b then isTrue (Pr.inj h.1 h.2) else isFalse (fun e => h (by rw [e]; exact ⟨rfl, rfl⟩))
/-- A key's field: how it is written and read. -/
structure FK (P : Program) (t : TypeId) (α : Type) where
  val : α → Value
  lit : α → Lit
  ok : α → Prop
  key : ∀ d x, ok x → P.keyLits (d + 1) t [val x] = some [lit x]
  ikey : ∀ d v l, P.keyLits (d + 1) t [v] = some l → ∃ x, ok x ∧ v = val x ∧ l = [lit x]
  inj : ∀ x y, val x = val y → x = y
def FK.int (P : Program) (t : TypeId) (q : IntKind) (h : P.underlying t = some (.int q)) : FK P t Int where
  val := Value.int q
  lit := Lit.int q
  ok x := (Lit.int q x).wf = true
  key d x hx := by simp [Program.keyLits, h, hx]
  ikey d v l hl := by
    unfold Program.keyLits at hl
    rw [h] at hl
    cases v <;> simp at hl
    obtain ⟨⟨rfl, hw⟩, rfl⟩ := hl
    exact ⟨_, hw, rfl, rfl⟩
  inj x y h := by injection h
def FK.str (P : Program) (t : TypeId) (h : P.underlying t = some .string) : FK P t Str where
  val x := Value.string x.s
  lit x := Lit.string x.s.data.toList
  ok x := x.s.size ≤ maxLen
  key d x hx := by simp [Program.keyLits, h, hx]
  ikey d v l hl := by
    unfold Program.keyLits at hl
    rw [h] at hl
    cases v <;> simp at hl
    obtain ⟨hw, rfl⟩ := hl
    exact ⟨⟨_⟩, hw, rfl, rfl⟩
  inj x y h := by injection h with h; exact Str.inj h
theorem keyOf_two {P : Program} {kt : TypeId} {f0 f1 : Field} (hk : P.underlying kt = some (.struct #[f0, f1])) (hn : (#[f0, f1].all (·.name != "_")) = true) (hc : P.cellsOf kt = 2) (h0 : f0.offset = 0) (h1 : f1.offset = 1)
    (c0 : P.cellsOf f0.type = 1) (c1 : P.cellsOf f1.type = 1) (hkt : P.keyType kt = true) (hs : 0 < P.types.size) (a b : Value) :
    ∃ d, keyOf P kt (.agg #[a, b]) = ((P.keyLits (d + 1) f0.type [a]).bind fun x => (P.keyLits (d + 1) f1.type [b]).map fun y => Lit.string (keyBytes (x ++ y))) := by
  obtain ⟨s, hs⟩ : ∃ s, P.types.size = s + 1 := ⟨P.types.size - 1, by omega⟩
  refine ⟨s, ?_⟩
  have hf : (Value.agg #[a, b]).formed P kt = true := by simp [Value.formed, hk, hc]
  unfold keyOf
  rw [hk]
  simp only [hkt, hf, Bool.and_self, if_true]
  rw [hs]
  conv => lhs; unfold Program.keyLits
  rw [hk]
  have hl : (Value.agg #[a, b]).cells.toList = [a, b] := rfl
  simp only [hl, hc, hn, List.length_cons, List.length_nil, and_self, if_true]
  simp only [List.mapM_cons, List.mapM_nil, h0, h1, c0, c1, List.drop_zero, List.drop_succ_cons, List.take_succ_cons, List.take_zero]
  cases P.keyLits (s + 1) f0.type [a] <;> cases P.keyLits (s + 1) f1.type [b] <;> simp
variable {P : Program} {t kt et : TypeId} {α α' : Type} [DecidableEq α] [DecidableEq α']
/-- Keys of two fields, elements of int. -/
def MK.pi (P : Program) (t kt et : TypeId) (qe : IntKind) {f0 f1 : Field} (F0 : FK P f0.type α) (F1 : FK P f1.type α') (K : Keyed P kt)
    (hk : P.underlying kt = some (.struct #[f0, f1])) (hn : (#[f0, f1].all (·.name != "_")) = true) (hc : P.cellsOf kt = 2) (h0 : f0.offset = 0) (h1 : f1.offset = 1)
    (c0 : P.cellsOf f0.type = 1) (c1 : P.cellsOf f1.type = 1) (hkt : P.keyType kt = true) (hs : 0 < P.types.size)
    (he : P.underlying et = some (.int qe)) (ht : P.underlying t = some (.map kt et)) : MK P t kt et (Pr α α') Int where
  val x := .agg #[F0.val x.a, F1.val x.b]
  lit x := .string (keyBytes [F0.lit x.a, F1.lit x.b])
  okk x := F0.ok x.a ∧ F1.ok x.b
  ev := Value.int qe
  ed c := .lit (.int qe c)
  okv c := (Lit.int qe c).wf = true
  R := plainElem P et
  K := K
  ht := ht
  key x h := by
    obtain ⟨d, hd⟩ := keyOf_two hk hn hc h0 h1 c0 c1 hkt hs (F0.val x.a) (F1.val x.b)
    rw [hd, F0.key d x.a h.1, F1.key d x.b h.2]
    rfl
  ikey v l h := by
    have hv : ∃ a b, v = .agg #[a, b] := by
      have hh := h
      unfold keyOf at hh
      rw [hk] at hh
      simp only [hkt, Bool.true_and] at hh
      by_cases hf : v.formed P kt = true
      · unfold Value.formed at hf
        rw [hk] at hf
        cases v <;> simp [hc] at hf
        rename_i cs
        obtain ⟨l⟩ := cs
        simp at hf
        match l, hf with
        | [a, b], _ => exact ⟨a, b, rfl⟩
      · rw [if_neg hf] at hh; cases hh
    obtain ⟨a, b, rfl⟩ := hv
    obtain ⟨d, hd⟩ := keyOf_two hk hn hc h0 h1 c0 c1 hkt hs a b
    rw [hd] at h
    obtain ⟨x0, hx0, h⟩ := Option.bind_eq_some_iff.1 h
    obtain ⟨y0, hy0, rfl⟩ := Option.map_eq_some_iff.1 h
    obtain ⟨x, hx, rfl, rfl⟩ := F0.ikey d _ _ hx0
    obtain ⟨y, hy, rfl, rfl⟩ := F1.ikey d _ _ hy0
    exact ⟨⟨x, y⟩, ⟨hx, hy⟩, rfl, rfl⟩
  inj x y hx hy e := by
    have key : ∀ x : Pr α α', F0.ok x.a ∧ F1.ok x.b → keyOf P kt (.agg #[F0.val x.a, F1.val x.b]) = some (.string (keyBytes [F0.lit x.a, F1.lit x.b])) := fun x h => by
      obtain ⟨d, hd⟩ := keyOf_two hk hn hc h0 h1 c0 c1 hkt hs (F0.val x.a) (F1.val x.b)
      rw [hd, F0.key d x.a h.1, F1.key d x.b h.2]
      rfl
    have := K.inj (key x hx) (e ▸ key y hy)
    simp only [Value.agg.injEq] at this
    have h2 := congrArg Array.toList this
    simp only [List.cons.injEq, and_true] at h2
    exact Pr.inj (F0.inj _ _ h2.1) (F1.inj _ _ h2.2)
  isKey x := trivial
  elem v h := plainElem_int he h
  ielem v y h := by obtain ⟨c, e, e2, hw⟩ := plainElem_int_inv he h; exact ⟨c, hw, e, e2⟩
  einj a b h := by injection h with h; injection h
theorem next_pii {P : Program} {t kt et : TypeId} (M : MK P t kt et (Pr Int Int) Int) (hv : ∀ x, M.val x = .agg #[.int .i64 x.a, .int .i64 x.b]) (hev : ∀ c, M.ev c = .int .i64 c)
  (w : World) {ops : Array Oper} {rest : List Oper} {o : Oper} {a : Act} {Q : Exit → Act → World → Prop} (hg : o.guard = none) (it : Operand) (hop : o.op = Op.next it false) (b r n : Nat) (m done : List ((Pr Int Int) × Int)) (hit : a.eval it = .pointer (some ⟨r, 0, none⟩)) (h : M.Ranges w b r n m done)
    (hDone : (∀ x, done.lookup x = m.lookup x) → wpList P ops Q rest (a.put o.dst (.tuple #[.bool false])) w)
    (hMore : ∀ (x : (Pr Int Int)) (c : Int) (w' : World), M.okk x → M.okv c → m.lookup x = some c → done.lookup x = none → M.Ranges w' b r n m (done ++ [(x, c)]) → w'.rangeLeft b r < w.rangeLeft b r →
      w.grownBy w' (some r) → w'.heap.size = w.heap.size → (Instr.entry (.pointer (some ⟨r, 0, none⟩))).run P w' = .ok (.tuple #[.agg #[.int .i64 x.a, .int .i64 x.b], .int .i64 c]) w' → wpList P ops Q rest (a.put o.dst (.tuple #[.bool true, .agg #[.int .i64 x.a, .int .i64 x.b], .int .i64 c])) w') :
    wpList P ops Q (o :: rest) a w :=
  M.next_op w hg it hop b r n m done hit h hDone (fun x c w' h1 h2 h3 h4 h5 h6 h7 h8 h9 => by rw [hv, hev] at h9 ⊢; exact hMore x c w' h1 h2 h3 h4 h5 h6 h7 h8 h9)
open Go.ChangeMaps Go.WideElems Go.MapKept in
/-- 'm[k] op= v' where the entry is made first: the entry, then the store. -/
theorem MK.entry_op {κ β : Type} [DecidableEq κ] {P : Program} {t kt et : TypeId} (M : MK P t kt et κ β) (L : WideMaps.KeyLaw P kt) {w : World} {b n : Nat} {m : List (κ × β)} (his : M.Is w b n m) (hn : n < maxLen) (z : β) (hz : ∀ u : World, (zeroValue et).run P u = .ok (M.ev z) u) (hzo : M.okv z) (k : κ) (hk : M.okk k) :
    ∃ (v0 : Value) (st : Nat) (w1 : World), (Instr.mapEntry t (.map (some b)) (M.val k)).run P w = .ok (.tuple #[v0, goInt st]) w1 ∧ (Instr.lookup t (.map (some b)) (M.val k) false).run P w = .ok (M.ev ((m.lookup k).getD z)) w ∧
      (Instr.lookup t (.map (some b)) (M.val k) false).run P w1 = .ok (M.ev ((m.lookup k).getD z)) w1 ∧ M.okv ((m.lookup k).getD z) ∧ w.grownBy w1 (some b) ∧
      ∀ c, M.okv c → ∀ m' : List (κ × β), (∀ y, m'.lookup y = if y = k then some c else m.lookup y) → ∃ w2, (Instr.entryStore t (.map (some b)) (goInt st) (M.ev c)).run P w1 = .ok () w2 ∧ M.Is w2 b (n + 1) m' ∧ w.grownBy w2 (some b) := by
  have look : ∀ (u : World) (n' : Nat) (m1 : List (κ × β)), M.Is u b n' m1 → (Instr.lookup t (.map (some b)) (M.val k) false).run P u = .ok (M.ev ((m1.lookup k).getD z)) u ∧ M.okv ((m1.lookup k).getD z) := by
    intro u n' m1 h1
    obtain ⟨D, hown, hA⟩ := h1
    obtain ⟨v, ps, hrun, hv⟩ := hown.lookup M.K M.ht (hz u) (M.elem z hzo) (M.key k hk)
    obtain ⟨c, hc, rfl, hat⟩ := M.ielem v _ hv
    have hat := (Prod.mk.inj hat).1
    have he : (m1.lookup k).getD z = c := by
      cases hl : m1.lookup k with
      | some c' => exact M.einj _ _ (((hA.2 k c' hl).2 (M.ed z)).symm.trans hat)
      | none =>
        have hh : Maps.has D (M.lit k) = false := by rw [hA.1 k hk, hl]; rfl
        rw [atKey_of_not_has hh] at hat
        exact M.einj _ _ hat
    rw [he]
    exact ⟨hrun, hc⟩
  obtain ⟨look1, look2⟩ := look w n m his
  obtain ⟨D, hown, hA⟩ := his
  obtain ⟨es, clock, hb, F, hs, hD⟩ := hown
  have hIs : M.Is w b n m := ⟨D, ⟨es, clock, hb, F, hs, hD⟩, hA⟩
  obtain ⟨v0, st, es1, clock1, hent, hv0, hst⟩ := entry_then_store L M.ht hz hb F (M.key k hk)
  refine ⟨v0, st, _, hent, look1, ?_, look2, ⟨rfl, rfl, rfl, by simp [setBlock], fun i _ hi => heap_setBlock_other hb _ (fun e => hi (by rw [e]))⟩, ?_⟩
  · rcases L.find w (M.key k hk) es.toList F.keys with ⟨h1, h2⟩ | ⟨j, e0, h1, h2, h3⟩
    · have hrun : (Instr.mapEntry t (.map (some b)) (M.val k)).run P w = .ok (.tuple #[M.ev z, goInt clock]) (setBlock w b (.map (es.push ⟨M.val k, M.ev z, clock⟩) (clock + 1))) := by
        simp [Instr.mapEntry, run_underlying M.ht, MapKept.run_getObj_map hb, L.check w false (M.key k hk), h1, hz, MapKept.run_setObj_map _ hb, Result.andThen, setBlock]
      rw [hrun] at hent
      have hw : setBlock w b (.map (es.push ⟨M.val k, M.ev z, clock⟩) (clock + 1)) = setBlock w b (.map es1 clock1) := by injection hent
      have hupd : (Instr.mapUpdate t (.map (some b)) (M.val k) (M.ev z)).run P w = .ok () (setBlock w b (.map (es.push ⟨M.val k, M.ev z, clock⟩) (clock + 1))) := by
        simp [Instr.mapUpdate, run_underlying M.ht, MapKept.run_getObj_map hb, L.check w false (M.key k hk), h1, MapKept.run_setObj_map _ hb, Result.andThen, setBlock]
      obtain ⟨w', hrun', r1, r2⟩ := World.ownsMap.update ⟨es, clock, hb, F, hs, hD⟩ M.K M.ht hn (M.key k hk) (M.elem z hzo)
      rw [hupd] at hrun'
      have hw' : setBlock w b (.map (es.push ⟨M.val k, M.ev z, clock⟩) (clock + 1)) = w' := by injection hrun'
      rw [← hw, hw']
      have hm1 : ∀ y, ((k, z) :: m).lookup y = if y = k then some z else m.lookup y := fun y => by
        by_cases h : y = k
        · subst h; simp [List.lookup]
        · have : (y == k) = false := beq_eq_false_iff_ne.2 h
          simp [List.lookup, h, this]
      have hl1 := (look w' (n + 1) ((k, z) :: m) ⟨_, r1, hA.put M (by rw [hD]; exact ⟨_, rfl⟩) k z hk hm1⟩).1
      have hl0 : (Instr.lookup t (.map (some b)) (M.val k) false).run P w = .ok (M.ev z) w := by
        simp [Instr.lookup, run_underlying M.ht, MapKept.run_getObj_map hb, L.check w _ (M.key k hk), h1, hz, Result.andThen]
      rw [look1] at hl0
      have hev : M.ev ((m.lookup k).getD z) = M.ev z := by injection hl0
      rw [hm1, if_pos rfl] at hl1
      rw [hev]
      exact hl1
    · have hj : es[j]? = some e0 := by simpa using h2
      have hsame : es.modify j (fun e => { e with key := M.val k }) = es := by
        apply Array.ext'
        rw [Array.toList_modify, modify_eq_set _ _ _ _ h2]
        have : ({ e0 with key := M.val k } : MapEntry) = e0 := by rw [← h3]
        rw [this]
        exact set_self _ _ _ h2
      have hrun : (Instr.mapEntry t (.map (some b)) (M.val k)).run P w = .ok (.tuple #[e0.val, goInt e0.born]) (setBlock w b (.map es clock)) := by
        simp [Instr.mapEntry, run_underlying M.ht, MapKept.run_getObj_map hb, L.check w false (M.key k hk), h1, hj, h3, L.stays w (M.key k hk), hsame, MapKept.run_setObj_map _ hb, Result.andThen, setBlock]
      rw [hrun] at hent
      have hw : setBlock w b (.map es clock) = setBlock w b (.map es1 clock1) := by injection hent
      rw [← hw]
      exact (look _ n m ⟨D, ⟨es, clock, heap_setBlock_same hb _, F, hs, hD⟩, hA⟩).1
  · intro c hc m' hm'
    obtain ⟨es', clock', hst1, hst2⟩ := hst (setBlock w b (.map es1 clock1)) (M.ev c) (heap_setBlock_same hb _)
    obtain ⟨w', hrun', r1, r2⟩ := World.ownsMap.update ⟨es, clock, hb, F, hs, hD⟩ M.K M.ht hn (M.key k hk) (M.elem c hc)
    rw [hst2] at hrun'
    have hw' : setBlock w b (.map es' clock') = w' := by injection hrun'
    refine ⟨_, hst1, ?_, ?_⟩
    all_goals (have e : setBlock (setBlock w b (.map es1 clock1)) b (.map es' clock') = w' := by rw [← hw']; simp [setBlock])
    · rw [e]
      exact ⟨_, r1, hA.put M (by rw [hD]; exact ⟨_, rfl⟩) k c hk hm'⟩
    · rw [e]; exact r2
end Go.Proofs.Ytfakedchahildaa.MapKit
