/- Maps that a call makes and ranges over, told by a list of entries: look-up, store, range, whatever the keys and the elements. -/
import Derived.Maps.RangeWalk
import Derived.Maps.Ext
import Derived.Maps.OwnOps
import Derived.Maps.OwnSet
import Derived.Test.YtbmcddmhfnnccaaWWords
namespace Go.Proofs.Ytbmcddmhfnnccaa.MapKit
open Go.RowKit Go.Maps
/-- A type of maps: how its keys and its elements are written and read. -/
structure MK (P : Program) (t kt et : TypeId) (κ β : Type) [DecidableEq κ] where
  val : κ → Value
  lit : κ → Lit
  okk : κ → Prop
  ev : β → Value
  ed : β → DataW Unit
  okv : β → Prop
  R : Value → Option (DataW Unit × List MemPlace)
  K : Keyed P kt
  ht : P.underlying t = some (.map kt et)
  key : ∀ x, okk x → keyOf P kt (val x) = some (lit x)
  ikey : ∀ v l, keyOf P kt v = some l → ∃ x, okk x ∧ v = val x ∧ l = lit x
  inj : ∀ x y, okk x → okk y → lit x = lit y → x = y
  isKey : ∀ x, WideAt.IsKeyLit (lit x)
  elem : ∀ v, okv v → R (ev v) = some (ed v, [])
  ielem : ∀ v y, R v = some y → ∃ c, okv c ∧ v = ev c ∧ y = (ed c, [])
  einj : ∀ a b, ed a = ed b → a = b

theorem same_self {k : Lit} (h : WideAt.IsKeyLit k) : k.sameKey k = true := by
  have h1 : Maps.has ((DataW.map [] : DataW Unit).put k .nil) k = true := has_put_same isMap_empty h DataW.nil
  have h2 : Maps.has ((DataW.map [] : DataW Unit).put k .nil) k = (k.sameKey k || false) := rfl
  rw [h2, Bool.or_false] at h1
  exact h1

variable {P : Program} {t kt et : TypeId} {κ β : Type} [DecidableEq κ]
theorem lookup_snoc (l : List (κ × β)) (x : κ) (c : β) (y : κ) : (l ++ [(x, c)]).lookup y = (l.lookup y).or (if y = x then some c else none) := by
  induction l with
  | nil =>
    by_cases h : y = x
    · subst h; simp [List.lookup]
    · have : (y == x) = false := beq_eq_false_iff_ne.2 h
      simp [List.lookup, h, this]
  | cons p l ih =>
    obtain ⟨a, b⟩ := p
    by_cases h : y = a
    · subst h; simp [List.lookup]
    · have : (y == a) = false := beq_eq_false_iff_ne.2 h
      simp [List.lookup, this, ih]
theorem mem_of_lookup {l : List (κ × β)} {x : κ} {c : β} (h : l.lookup x = some c) : (x, c) ∈ l := by
  induction l with
  | nil => simp at h
  | cons p l ih =>
    obtain ⟨a, b⟩ := p
    by_cases hx : x = a
    · subst hx; simp [List.lookup] at h; subst h; exact List.mem_cons_self
    · have : (x == a) = false := beq_eq_false_iff_ne.2 hx
      simp [List.lookup, this] at h
      exact List.mem_cons_of_mem _ (ih h)
theorem lookup_of_mem {l : List (κ × β)} (hn : (l.map (·.1)).Nodup) {x : κ} {c : β} (h : (x, c) ∈ l) : l.lookup x = some c := by
  induction l with
  | nil => cases h
  | cons p l ih =>
    obtain ⟨a, b⟩ := p
    simp only [List.map_cons, List.nodup_cons] at hn
    rcases List.mem_cons.1 h with h | h
    · cases h; simp [List.lookup]
    · have hne : x ≠ a := fun e => hn.1 (List.mem_map.2 ⟨(x, c), h, e⟩)
      have : (x == a) = false := beq_eq_false_iff_ne.2 hne
      simp [List.lookup, this, ih hn.2 h]
theorem lookup_none {l : List (κ × β)} {x : κ} : l.lookup x = none ↔ x ∉ l.map (·.1) := by
  induction l with
  | nil => simp
  | cons p l ih =>
    obtain ⟨a, b⟩ := p
    by_cases hx : x = a
    · subst hx; simp [List.lookup]
    · have : (x == a) = false := beq_eq_false_iff_ne.2 hx
      simp only [List.lookup, this, ih, List.map_cons, List.mem_cons, hx, false_or]
theorem perm_of_lookup {a b : List (κ × β)} (ha : (a.map (·.1)).Nodup) (hb : (b.map (·.1)).Nodup) (h : ∀ x, a.lookup x = b.lookup x) : a.Perm b := by
  have nd : ∀ l : List (κ × β), (l.map (·.1)).Nodup → l.Nodup := fun l h => by
    unfold List.Nodup at h ⊢
    rw [List.pairwise_map] at h
    exact h.imp fun hne e => hne (by rw [e])
  have na := nd a ha
  have nb := nd b hb
  rw [List.perm_ext_iff_of_nodup na nb]
  intro ⟨x, c⟩
  constructor
  · intro hm; exact mem_of_lookup ((h x).symm.trans (lookup_of_mem ha hm))
  · intro hm; exact mem_of_lookup ((h x).trans (lookup_of_mem hb hm))

/-- What a datum says of a list of entries. -/
def MK.Agree (M : MK P t kt et κ β) (D : DataW Unit) (m : List (κ × β)) : Prop := (∀ x, M.okk x → Maps.has D (M.lit x) = (m.lookup x).isSome) ∧ ∀ x c, m.lookup x = some c → M.okk x ∧ ∀ z, D.atKey (M.lit x) z = M.ed c
theorem MK.Agree.put (M : MK P t kt et κ β) {D : DataW Unit} {m m' : List (κ × β)} (hA : M.Agree D m) (hD : IsMap D) (k : κ) (c : β) (hk : M.okk k) (hm' : ∀ y, m'.lookup y = if y = k then some c else m.lookup y) : M.Agree (D.put (M.lit k) (M.ed c)) m' := by
  refine ⟨fun y hyk => ?_, fun y c' hl => ?_⟩
  · rw [hm' y]
    by_cases hy : y = k
    · subst hy; rw [if_pos rfl, has_put_same hD (M.isKey _)]; rfl
    · rw [if_neg hy, has_put_other (fun e => hy (M.inj _ _ hyk hk e))]; exact hA.1 y hyk
  · rw [hm' y] at hl
    by_cases hy : y = k
    · subst hy; rw [if_pos rfl] at hl; cases hl; exact ⟨hk, fun z => atKey_put_same hD (M.isKey _) _ _⟩
    · rw [if_neg hy] at hl; refine ⟨(hA.2 y c' hl).1, fun z => ?_⟩; rw [atKey_put_other (fun e => hy (M.inj _ _ (hA.2 y c' hl).1 hk e))]; exact (hA.2 y c' hl).2 z
/-- Block b is a map of at most n entries: those of m. -/
def MK.Is (M : MK P t kt et κ β) (w : World) (b n : Nat) (m : List (κ × β)) : Prop := ∃ D, w.ownsMap P kt M.R b n D ∧ M.Agree D m
theorem MK.made (M : MK P t kt et κ β) (w : World) : M.Is (w.alloc (.map #[] 0)) w.heap.size 0 [] := ⟨_, World.ownsMap_made _ _ _ _, fun _ _ => rfl, fun _ _ h => by cases h⟩
theorem MK.Is.kept {M : MK P t kt et κ β} {w w' : World} {b n : Nat} {m : List (κ × β)} (h : M.Is w b n m) {row : Option Nat} (hg : w.grownBy w' row) (hne : some b ≠ row) : M.Is w' b n m := by
  obtain ⟨D, ho, hA⟩ := h
  exact ⟨D, ho.kept hg hne, hA⟩
theorem MK.Is.alloc {M : MK P t kt et κ β} {w : World} {b n : Nat} {m : List (κ × β)} (h : M.Is w b n m) (o : Obj) : M.Is (w.alloc o) b n m := h.kept (World.grownBy_alloc w o none) (by simp)
theorem MK.Is.drew {M : MK P t kt et κ β} {w : World} {b n : Nat} {m : List (κ × β)} (h : M.Is w b n m) : M.Is w.drew b n m := h
theorem MK.Is.drewN {M : MK P t kt et κ β} {w : World} {b n : Nat} {m : List (κ × β)} (h : M.Is w b n m) (q : Nat) : M.Is (w.drewN q) b n m := h
theorem MK.Is.below {M : MK P t kt et κ β} {w w' : World} {b n : Nat} {m : List (κ × β)} (h : M.Is w b n m) (hb : Below w.heap.size w w') : M.Is w' b n m := h.kept (Go.Proofs.YtbmcddmhfnnccaaW.PrintWords.grown_of_below hb none) (by simp)
theorem MK.Is.lt {M : MK P t kt et κ β} {w : World} {b n : Nat} {m : List (κ × β)} (h : M.Is w b n m) : b < w.heap.size := by
  obtain ⟨D, ho, _⟩ := h
  exact ho.lt
theorem MK.Is.mono {M : MK P t kt et κ β} {w : World} {b n n' : Nat} {m : List (κ × β)} (h : M.Is w b n m) (hn : n ≤ n') : M.Is w b n' m := by
  obtain ⟨D, ho, hA⟩ := h
  exact ⟨D, ho.mono hn, hA⟩
theorem MK.Is.congr {M : MK P t kt et κ β} {w : World} {b n : Nat} {m m' : List (κ × β)} (h : M.Is w b n m) (hm : ∀ x, m'.lookup x = m.lookup x) : M.Is w b n m' := by
  obtain ⟨D, ho, hA⟩ := h
  exact ⟨D, ho, fun x hx => by rw [hm]; exact hA.1 x hx, fun x c hl => hA.2 x c (by rw [← hm]; exact hl)⟩
/-- What lies in a map is well formed. -/
theorem MK.Is.okk {M : MK P t kt et κ β} {w : World} {b n : Nat} {m : List (κ × β)} (h : M.Is w b n m) {x : κ} {c : β} (hl : m.lookup x = some c) : M.okk x := by
  obtain ⟨D, ho, hA⟩ := h
  exact (hA.2 x c hl).1
/-- A store into a block that is no map's. -/
theorem MK.Is.far {M : MK P t kt et κ β} {w : World} {b n : Nat} {m : List (κ × β)} (h : M.Is w b n m) {p : Addr} (hne : b ≠ p.block) (u : Value) : M.Is (w.setCell p u) b n m := by
  refine h.kept (row := some p.block) ⟨rfl, rfl, rfl, by simp, fun k hk hk2 => Below.heap_setCell w p u k (fun e => hk2 (by rw [e]))⟩ (fun e => hne (Option.some.inj e))

section
variable (w : World) {ops : Array Oper} {rest : List Oper} {o : Oper} {a : Act} {Q : Exit → Act → World → Prop}
/-- 'make(map[K]V)': the map's block gets a letter. -/
theorem MK.make_op (M : MK P t kt et κ β) (hg : o.guard = none) (hop : o.op = Op.makeMap t none)
    (hK : ∀ b w', b = w.heap.size → M.Is w' b 0 [] → Below w.heap.size w w' → wpList P ops Q rest (a.put o.dst (.map (some b))) w') : wpList P ops Q (o :: rest) a w := by
  refine wpList_plain hg fun K' hK' => ?_
  unfold Oper.wp
  have hmm := @run_makeMap P
  simp [execOp, hop, hmm, Result.andThen]
  exact hK' _ _ (hK w.heap.size _ rfl (M.made w) ((Below.refl _ _).alloc (Nat.le_refl _) _))
/-- 'm[x]'. -/
theorem MK.lookup_op (M : MK P t kt et κ β) (hg : o.guard = none) (mo x : Operand) (hop : o.op = Op.lookup t mo x false) (z : β) (hz : (zeroValue et).run P w = .ok (M.ev z) w) (hzo : M.okv z) (b n : Nat) (m : List (κ × β))
    (hm : a.eval mo = .map (some b)) (his : M.Is w b n m) (k : κ) (hx : a.eval x = M.val k) (hk : M.okk k)
    (hK : M.okv ((m.lookup k).getD z) → wpList P ops Q rest (a.put o.dst (M.ev ((m.lookup k).getD z))) w) : wpList P ops Q (o :: rest) a w := by
  refine wpList_plain hg fun K' hK' => ?_
  obtain ⟨D, hown, hA⟩ := his
  obtain ⟨v, y, hrun, hat, hv⟩ : ∃ v y, (Instr.lookup t (.map (some b)) (M.val k) false).run P w = .ok v w ∧ D.atKey (M.lit k) (M.ed z) = y.1 ∧ M.R v = some y := by
    obtain ⟨v, ps, h1, h2⟩ := hown.lookup M.K M.ht hz (M.elem z hzo) (M.key k hk)
    exact ⟨v, _, h1, rfl, h2⟩
  obtain ⟨c, hc, rfl, rfl⟩ := M.ielem v y hv
  have he : (m.lookup k).getD z = c := by
    cases hl : m.lookup k with
    | some c' =>
      have := (hA.2 k c' hl).2 (M.ed z)
      exact M.einj _ _ (this.symm.trans hat)
    | none =>
      have hh : Maps.has D (M.lit k) = false := by rw [hA.1 k hk, hl]; rfl
      rw [atKey_of_not_has hh] at hat
      exact M.einj _ _ hat
  unfold Oper.wp
  simp [execOp, hop, hm, hx, hrun, Result.andThen]
  rw [← he] at hc ⊢
  exact hK' _ _ (hK hc)
/-- 'm[x] = v'. -/
theorem MK.update_op (M : MK P t kt et κ β) (hg : o.guard = none) (mo x v : Operand) (hop : o.op = Op.mapUpdate t mo x v) (b n : Nat) (m : List (κ × β))
    (hm : a.eval mo = .map (some b)) (his : M.Is w b n m) (hn : n < maxLen) (k : κ) (c : β) (hx : a.eval x = M.val k) (hk : M.okk k) (hv : a.eval v = M.ev c) (hc : M.okv c)
    (m' : List (κ × β)) (hm' : ∀ y, m'.lookup y = if y = k then some c else m.lookup y)
    (hK : ∀ w', M.Is w' b (n + 1) m' → w.grownBy w' (some b) → wpList P ops Q rest (a.put o.dst undef) w') : wpList P ops Q (o :: rest) a w := by
  obtain ⟨D, hown, hA⟩ := his
  refine wpList_mapUpdate_own w hg mo x v t hop kt et M.K M.ht M.R b n D hm hown hn _ _ _ hx hv (M.key k hk) (M.ed c) [] (M.elem c hc) fun w' ho hgr => hK w' ⟨_, ho, fun y hyk => ?_, fun y c' hl => ?_⟩ hgr
  · have hD : IsMap D := by
      obtain ⟨es, _, _, _, _, rfl⟩ := hown
      exact ⟨_, rfl⟩
    rw [hm' y]
    by_cases hy : y = k
    · subst hy; rw [if_pos rfl, has_put_same hD (M.isKey _)]; rfl
    · rw [if_neg hy, has_put_other (fun e => hy (M.inj _ _ hyk hk e))]; exact hA.1 y hyk
  · have hD : IsMap D := by
      obtain ⟨es, _, _, _, _, rfl⟩ := hown
      exact ⟨_, rfl⟩
    rw [hm' y] at hl
    by_cases hy : y = k
    · subst hy; rw [if_pos rfl] at hl; cases hl; exact ⟨hk, fun z => atKey_put_same hD (M.isKey _) _ _⟩
    · rw [if_neg hy] at hl; refine ⟨(hA.2 y c' hl).1, fun z => ?_⟩; rw [atKey_put_other (fun e => hy (M.inj _ _ (hA.2 y c' hl).1 hk e))]; exact (hA.2 y c' hl).2 z
/-- A range over the map is under way: 'done' has come. -/
def MK.Ranges (M : MK P t kt et κ β) (w : World) (b r n : Nat) (m done : List (κ × β)) : Prop :=
  ∃ D left cnt, w.ranges P kt M.R b r n D left cnt ∧ M.Agree D m ∧ (∀ x, M.okk x → left (M.lit x) = ((m.lookup x).isSome && (done.lookup x).isNone)) ∧ (∀ x c, (x, c) ∈ done → m.lookup x = some c ∧ M.okk x ∧ M.okv c) ∧ (done.map (·.1)).Nodup
theorem MK.Ranges.is {M : MK P t kt et κ β} {w : World} {b r n : Nat} {m done : List (κ × β)} (h : M.Ranges w b r n m done) : M.Is w b n m := by
  obtain ⟨D, left, cnt, hr, hA, _⟩ := h
  exact ⟨D, hr.owns, hA⟩
theorem MK.Ranges.kept {M : MK P t kt et κ β} {w w' : World} {b r n : Nat} {m done : List (κ × β)} (h : M.Ranges w b r n m done) {row : Option Nat} (hg : w.grownBy w' row) (hb : some b ≠ row) (hr : some r ≠ row) : M.Ranges w' b r n m done ∧ w'.rangeLeft b r = w.rangeLeft b r := by
  obtain ⟨D, left, cnt, h1, h2⟩ := h
  have h3 := h1.kept hg hb hr
  exact ⟨⟨D, left, cnt, h3, h2⟩, h3.left_eq.trans h1.left_eq.symm⟩
theorem MK.Ranges.alloc {M : MK P t kt et κ β} {w : World} {b r n : Nat} {m done : List (κ × β)} (h : M.Ranges w b r n m done) (o : Obj) : M.Ranges (w.alloc o) b r n m done := (h.kept (World.grownBy_alloc w o none) (by simp) (by simp)).1
theorem MK.Ranges.drewN {M : MK P t kt et κ β} {w : World} {b r n : Nat} {m done : List (κ × β)} (h : M.Ranges w b r n m done) (q : Nat) : M.Ranges (w.drewN q) b r n m done := h
theorem MK.Ranges.lt {M : MK P t kt et κ β} {w : World} {b r n : Nat} {m done : List (κ × β)} (h : M.Ranges w b r n m done) : r < w.heap.size := by
  obtain ⟨D, left, cnt, hr, _⟩ := h
  exact hr.lt
/-- A row of the call's own is neither the map's block nor the iterator's. -/
theorem MK.Ranges.row_ne {M : MK P t kt et κ β} {w : World} {b r n : Nat} {m done : List (κ × β)} (h : M.Ranges w b r n m done) {base : Nat} {e : TypeId} {size : Nat} {v : Value} {q : Nat} {xs : List Value} (ho : w.ownsRow base e size v q xs) : some b ≠ v.ownBlock ∧ some r ≠ v.ownBlock := by
  obtain ⟨D, left, cnt, hr, _⟩ := h
  obtain ⟨es, clock, since, seen, c0, hb, _, _, _, hi, _⟩ := hr
  rcases ho.2 with ⟨rfl, _⟩ | ⟨g, cap, cur, rfl, _, hh, _⟩
  · simp [Value.ownBlock]
  · constructor
    · intro e1
      have : b = g := by simpa [Value.ownBlock] using e1
      subst this
      rw [hb] at hh; cases hh
    · intro e1
      have : r = g := by simpa [Value.ownBlock] using e1
      subst this
      rw [hi] at hh; cases hh
/-- 'range m'. -/
theorem MK.range_op (M : MK P t kt et κ β) (hg : o.guard = none) (mo : Operand) (hop : o.op = Op.range t mo) (b n : Nat) (m : List (κ × β)) (hm : a.eval mo = .map (some b)) (his : M.Is w b n m)
    (hK : ∀ r w', r = w.heap.size → M.Ranges w' b r n m [] → w.grownBy w' none → wpList P ops Q rest (a.put o.dst (.pointer (some ⟨r, 0, none⟩))) w') : wpList P ops Q (o :: rest) a w := by
  obtain ⟨D, hown, hA⟩ := his
  exact wpList_range_own w hg mo t hop kt et M.K M.ht M.R b n D hm hown fun w' hr hgr hs => hK _ w' rfl ⟨D, _, _, hr, hA, fun x hx => by rw [hA.1 x hx]; simp, fun _ _ h => by simp at h, by simp⟩ hgr
/-- The step: all has come, or one more entry has. -/
theorem MK.next_op (M : MK P t kt et κ β) (hg : o.guard = none) (it : Operand) (hop : o.op = Op.next it false) (b r n : Nat) (m done : List (κ × β)) (hit : a.eval it = .pointer (some ⟨r, 0, none⟩)) (h : M.Ranges w b r n m done)
    (hDone : (∀ x, done.lookup x = m.lookup x) → wpList P ops Q rest (a.put o.dst (.tuple #[.bool false])) w)
    (hMore : ∀ (x : κ) (c : β) (w' : World), M.okk x → M.okv c → m.lookup x = some c → done.lookup x = none → M.Ranges w' b r n m (done ++ [(x, c)]) → w'.rangeLeft b r < w.rangeLeft b r →
      w.grownBy w' (some r) → w'.heap.size = w.heap.size → (Instr.entry (.pointer (some ⟨r, 0, none⟩))).run P w' = .ok (.tuple #[M.val x, M.ev c]) w' → wpList P ops Q rest (a.put o.dst (.tuple #[.bool true, M.val x, M.ev c])) w') :
    wpList P ops Q (o :: rest) a w := by
  obtain ⟨D, left, cnt, hr, hA, hl, hd, hn⟩ := h
  refine wpList_next_ranges (α := {x : κ // M.okk x}) (β := {c : β // M.okv c}) w hg it hop kt M.K M.R (fun x => M.val x.1) (fun c => M.ev c.1) (fun v l hv => by obtain ⟨x, hx, e, _⟩ := M.ikey v l hv; exact ⟨⟨x, hx⟩, e⟩) (fun v y hv => by obtain ⟨c, hc, e, _⟩ := M.ielem v y hv; exact ⟨⟨c, hc⟩, e⟩) b r n D left cnt hit hr ?_ ?_
  · intro _ hno
    refine hDone fun x => ?_
    by_cases hxk : M.okk x
    case neg =>
      have a1 : done.lookup x = none := by
        cases h : done.lookup x with
        | none => rfl
        | some c => exact absurd (hd x c (mem_of_lookup h)).2.1 hxk
      have a2 : m.lookup x = none := by
        cases h : m.lookup x with
        | none => rfl
        | some c => exact absurd (hA.2 x c h).1 hxk
      rw [a1, a2]
    have h1 := hl x hxk
    rw [hno] at h1
    cases hdx : done.lookup x with
    | some c => exact ((hd x c (mem_of_lookup hdx)).1).symm
    | none =>
      rw [hdx] at h1
      cases hmx : m.lookup x with
      | none => rfl
      | some c => rw [hmx] at h1; simp at h1
  · intro ⟨x, hx⟩ ⟨c, hc⟩ kl y w' cnt' hkey hlk hv hat hr' hlt hgr hsz hen
    obtain rfl : M.lit x = kl := by have := M.key x hx; rw [this] at hkey; exact Option.some.inj hkey
    have hy : y = (M.ed c, []) := by have := M.elem c hc; rw [this] at hv; exact (Option.some.inj hv).symm
    subst hy
    have h1 := hl x hx
    rw [hlk] at h1
    have h1' := h1.symm
    rw [Bool.and_eq_true] at h1'
    obtain ⟨hm1, hd1⟩ := h1'
    have hd1' : done.lookup x = none := by simpa using hd1
    obtain ⟨c', hc'⟩ := Option.isSome_iff_exists.1 hm1
    have hcc : c' = c := M.einj _ _ (((hA.2 x c' hc').2 .nil).symm.trans (hat .nil))
    subst hcc
    refine hMore x c' w' hx hc hc' hd1' ⟨D, _, cnt', hr', hA, fun z hzk => ?_, fun z d hz => ?_, ?_⟩ (by rw [hr'.left_eq, hr.left_eq]; exact hlt) hgr hsz hen
    · rw [lookup_snoc]
      by_cases hz : z = x
      · subst hz
        simp [same_self (M.isKey z)]
      · have : (M.lit z).sameKey (M.lit x) = false := sameKey_ne (fun e => hz (M.inj _ _ hzk hx e))
        simp [this, hz, hl z hzk]
    · rcases List.mem_append.1 hz with hz | hz
      · exact hd z d hz
      · simp at hz; obtain ⟨rfl, rfl⟩ := hz; exact ⟨hc', hx, hc⟩
    · rw [List.map_append, List.nodup_append]
      refine ⟨hn, by simp, fun a ha b' hb' => ?_⟩
      simp at hb'
      subst hb'
      rintro rfl
      exact (lookup_none.1 hd1') ha
end
/-- Keys and elements of int. -/
def MK.ii (P : Program) (t kt et : TypeId) (qk qe : IntKind) (hk : P.underlying kt = some (.int qk)) (he : P.underlying et = some (.int qe)) (ht : P.underlying t = some (.map kt et)) : MK P t kt et Int Int where
  val := Value.int qk
  lit := Lit.int qk
  okk x := (Lit.int qk x).wf = true
  ev := Value.int qe
  ed c := .lit (.int qe c)
  okv c := (Lit.int qe c).wf = true
  R := plainElem P et
  K := int_keyed hk
  ht := ht
  key x h := keyOf_int_mk hk h
  ikey v l h := by obtain ⟨x, e, e2, hw⟩ := Maps.keyOf_int_inv hk h; exact ⟨x, hw, e, e2⟩
  inj x y _ _ h := by injection h
  isKey x := trivial
  elem v h := plainElem_int he h
  ielem v y h := by obtain ⟨c, e, e2, hw⟩ := plainElem_int_inv he h; exact ⟨c, hw, e, e2⟩
  einj a b h := by injection h with h; injection h
section
variable (w : World) {ops : Array Oper} {rest : List Oper} {o : Oper} {a : Act} {Q : Exit → Act → World → Prop} {qk qe : IntKind} (hk : P.underlying kt = some (.int qk)) (he : P.underlying et = some (.int qe)) (ht : P.underlying t = some (.map kt et))
end
end Go.Proofs.Ytbmcddmhfnnccaa.MapKit
