/- The entries of books as a deck draws them. Plain Lean. -/
import Derived.Test.YtfakedchahildaaLib44s
import Derived.Test.YtfakedchahildaaDeckBookF
import Derived.Test.YtfakedchahildaaQx7
import Derived.Test.YtfakedchahildaaQx10
namespace Go.Proofs.Ytfakedchahildaa.Lib44
open Go.RowKit Go.Proofs.Ytfakedchahildaa.Q Go.Proofs.YtfakedchahildaaW.PrintWords Go.Proofs.YtfakedchahildaaW.PrintLast Go.Proofs.Ytfakedchahildaa.MapKit Go.Proofs.Ytfakedchahildaa.ListKit Go.Proofs.Ytfakedchahildaa.DeckLib Go.Proofs.Ytfakedchahildaa.Lib17 Go.Proofs.Ytfakedchahildaa.Lib34 Go.Proofs.Ytfakedchahildaa.Lib35
abbrev Wg := S65
theorem rdW_mid (pre : List Wg) (x : Wg) (suf : List Wg) : rd_T65 (pre ++ x :: suf) (pre.length : Int) = x := by
  simp [rd_T65, List.getD_eq_getElem?_getD]
def findW (l : List Wg) (c : ByteArray) : Option Wg := l.find? (fun w => decide (w.f0.toList = c.toList))
def findS (l : List Wg) (c : ByteArray) : ByteArray × Int × Bool × Bool × Bool × Int × Bool := match findW l c with | some w => (w.f0, w.f1, w.f2, w.f3, w.f4, w.f5, true) | none => ((⟨#[]⟩ : ByteArray), 0, false, false, false, 0, false)
theorem findS_cons (p : Wg) (r : List Wg) (c : ByteArray) : findS (p :: r) c = if p.f0.toList = c.toList then (p.f0, p.f1, p.f2, p.f3, p.f4, p.f5, true) else findS r c := by
  unfold findS findW
  by_cases h : p.f0.toList = c.toList
  · rw [if_pos h, List.find?_cons_of_pos (by simpa using h)]
  · rw [if_neg h, List.find?_cons_of_neg (by simpa using h)]
theorem find_loop (c : ByteArray) (l : List Wg) (hl : l.length ≤ 1000000) : ∀ (suf pre : List Wg), l = pre ++ suf → Ev (fun k => wage_Find.l0 k c l (l.length : Int) (pre.length : Int)) (findS suf c) := by
  intro suf
  induction suf with
  | nil =>
    intro pre h
    refine Ev.step (f := fun _ => some (findS [] c)) (fun k => ?_) (Ev.now _)
    simp only [wage_Find.l0]
    rw [if_neg (by rw [h]; simp)]
    rfl
  | cons p suf ih =>
    intro pre h
    have h2 := ih (pre ++ [p]) (by rw [h]; simp)
    have hlen : l.length = pre.length + suf.length + 1 := by rw [h]; simp; omega
    have hrd : rd_T65 l (pre.length : Int) = p := by rw [h]; exact rdW_mid pre p suf
    rw [findS_cons]
    by_cases c1 : p.f0.toList = c.toList
    · rw [if_pos c1]
      refine Ev.step (f := fun _ => some (p.f0, p.f1, p.f2, p.f3, p.f4, p.f5, true)) (fun k => ?_) (Ev.now _)
      simp only [wage_Find.l0]
      rw [if_pos (by omega), if_pos (by omega), if_pos (by omega), hrd, if_pos c1]
    · rw [if_neg c1]
      refine Ev.step (fun k => ?_) h2
      simp only [wage_Find.l0]
      rw [if_pos (by omega), if_pos (by omega), if_pos (by omega), hrd, if_neg c1, wrapid (x := (pre.length : Int) + 1) (by omega) (by omega)]
      simp
theorem find_ev (l : List Wg) (c : ByteArray) (hl : l.length ≤ 1000000) : Ev (fun k => wage_Find.f k l c) (findS l c) := find_loop c l hl l [] rfl
/-- The entries of a posting, if it has a wage type. -/
def entsP (w : List Wg) (p : Ps) : Option (List Bk) := if p.f3.f0 = 1 then (match findW w p.f3.f1 with | some x => some (entL p.f0 p.f3.f0 p.f3.f2 x.f5) | none => none) else some (entL p.f0 p.f3.f0 p.f3.f2 0)
def entsL (w : List Wg) : List Ps → Option (List Bk)
  | [] => some []
  | p :: r => (entsP w p).bind fun x => (entsL w r).map (x ++ ·)
theorem entL_len (a b c d : Int) : (entL a b c d).length ≤ 2 := by
  unfold entL
  repeat' split
  all_goals simp
def entEnd (o : Option (List Bk)) (acc : List Bk) : List Bk × Int := match o with | some x => mergeB (acc ++ x) | none => ([], 16)
theorem entries_loop (w : List Wg) (hw : w.length ≤ 1000000) (l : List Ps) (hl : l.length ≤ 65536) : ∀ (suf pre : List Ps) (acc : List Bk), l = pre ++ suf → acc.length ≤ 2 * pre.length → Ev (fun k => ledger_Entries.l0 k w acc l (l.length : Int) (pre.length : Int)) (entEnd (entsL w suf) acc) := by
  intro suf
  induction suf with
  | nil =>
    intro pre acc h ha
    refine Ev.step (f := fun _ => some (mergeB acc)) (fun k => ?_) (by unfold entsL entEnd; simpa using Ev.now _)
    simp only [ledger_Entries.l0]
    rw [if_neg (by rw [h]; simp)]
    rfl
  | cons p suf ih =>
    intro pre acc h ha
    have hlen : l.length = pre.length + suf.length + 1 := by rw [h]; simp; omega
    have hrd : rd_T28 l (pre.length : Int) = p := by rw [h]; exact rdP_mid pre p suf
    have go : ∀ x : List Bk, x.length ≤ 2 → entsP w p = some x → Ev (fun k => ledger_Entries.l0 k w (acc ++ x) l (l.length : Int) ((pre ++ [p]).length : Int)) (entEnd (entsL w (p :: suf)) acc) := by
      intro x hx he
      have h2 := ih (pre ++ [p]) (acc ++ x) (by rw [h]; simp) (by simp; omega)
      have e : entEnd (entsL w (p :: suf)) acc = entEnd (entsL w suf) (acc ++ x) := by
        have e0 : entsL w (p :: suf) = (entsP w p).bind fun x => (entsL w suf).map (x ++ ·) := rfl
        rw [e0, he, Option.bind_some]
        cases entsL w suf with
        | none => rfl
        | some y => simp [entEnd]
      rw [e]; exact h2
    by_cases c : p.f3.f0 = 1
    · refine Ev.step (f := fun k => (wage_Find.f k w p.f3.f1).bind fun bt => if bt.2.2.2.2.2.2 = true then ledger_Entries.l0 k w (acc ++ entL p.f0 p.f3.f0 p.f3.f2 bt.2.2.2.2.2.1) l (l.length : Int) ((pre ++ [p]).length : Int) else some ([], 16)) (fun k => ?_) ?_
      · simp only [ledger_Entries.l0]
        rw [if_pos (by omega), if_pos (by omega), if_pos (by omega), hrd, if_pos c, wrapid (x := (pre.length : Int) + 1) (by omega) (by omega), lenP]
        congr 1
        funext t
        unfold ledger_entries.f
        by_cases ht : t.2.2.2.2.2.2 = true
        · rw [if_pos ht, if_pos ht, Option.bind_some, if_pos (by have := entL_len p.f0 p.f3.f0 p.f3.f2 t.2.2.2.2.2.1; omega)]
        · rw [if_neg ht, if_neg ht]
      · refine Ev.bind (find_ev w p.f3.f1 hw) ?_
        unfold findS
        cases hf : findW w p.f3.f1 with
        | none =>
          have e : entEnd (entsL w (p :: suf)) acc = ([], 16) := by
            have e0 : entsL w (p :: suf) = (entsP w p).bind fun x => (entsL w suf).map (x ++ ·) := rfl
            rw [e0]
            unfold entsP
            rw [if_pos c, hf]
            rfl
          rw [e]
          exact Ev.congr (fun k => if_neg (by simp)) (Ev.now _)
        | some x =>
          refine Ev.congr (fun k => if_pos rfl) ?_
          exact go _ (entL_len _ _ _ _) (by unfold entsP; rw [if_pos c, hf])
    · refine Ev.step (fun k => ?_) (go (entL p.f0 p.f3.f0 p.f3.f2 0) (entL_len _ _ _ _) (by unfold entsP; rw [if_neg c]))
      simp only [ledger_Entries.l0]
      rw [if_pos (by omega), if_pos (by omega), if_pos (by omega), hrd, if_neg c, wrapid (x := (pre.length : Int) + 1) (by omega) (by omega), lenP]
      unfold ledger_entries.f
      rw [Option.bind_some, if_pos (by have := entL_len p.f0 p.f3.f0 p.f3.f2 0; omega)]
def entriesSpec (w : List Wg) (v : Bool) (l : List Ps) : List Bk × Int := if (v && bookB l) = true then entEnd (entsL w l) [] else ([], 1)
theorem entries_ev (w : List Wg) (hw : w.length ≤ 1000000) (v : Bool) (hv : Ev (fun k => wage_Valid.f k w) v) (l : List Ps) : Ev (fun k => ledger_Entries.f k w l) (entriesSpec w v l) := by
  have hbad : Ev (fun k => ledger_Entries.j0 k w l true) ([], 1) := Ev.step (f := fun _ => some ([], 1)) (fun k => by simp [ledger_Entries.j0]) (Ev.now _)
  unfold ledger_Entries.f entriesSpec
  refine Ev.bind hv ?_
  cases v with
  | false => exact Ev.congr (fun k => if_neg (by simp)) (by simpa using hbad)
  | true =>
    refine Ev.congr (fun k => if_pos rfl) (Ev.bind (book_ev l) ?_)
    rw [Bool.true_and]
    cases hb : bookB l with
    | false => simpa using hbad
    | true =>
      rw [if_pos rfl]
      have := entries_loop w hw l (book_parts hb).1 l [] [] rfl (by simp)
      exact Ev.step (fun k => by simp [ledger_Entries.j0]) this
/-! ### books as a deck draws them -/
def wages8 : List Wg := [⟨(⟨#[97]⟩ : ByteArray), 1, false, false, false, 4000⟩, ⟨(⟨#[97, 98, 99, 100, 101, 102, 103, 104, 105, 106, 107, 108, 109, 110, 111, 112, 113, 114, 115, 116, 117, 118, 119, 120]⟩ : ByteArray), 1, false, false, false, 4000⟩, ⟨(⟨#[98]⟩ : ByteArray), 1, false, false, false, 4001⟩, ⟨(⟨#[98, 111, 110, 117, 115]⟩ : ByteArray), 1, false, false, false, 4001⟩, ⟨(⟨#[99, 97, 114]⟩ : ByteArray), 1, false, false, false, 4002⟩, ⟨(⟨#[110, 105, 103, 104, 116]⟩ : ByteArray), 1, false, false, false, 4002⟩, ⟨(⟨#[115, 97, 108, 97, 114, 121]⟩ : ByteArray), 1, false, false, false, 4003⟩, ⟨(⟨#[120, 49]⟩ : ByteArray), 1, false, false, false, 4003⟩]
theorem wages_ev : Ev (fun k => payrolllaw44_wages.f k) wages8 := Ev.of payrolllaw44_wages.mono (k := 20) (by kernel_rfl)
theorem wages_valid : Ev (fun k => wage_Valid.f k wages8) true := Ev.of (wage_Valid.mono wages8) (k := 200) (by decide +kernel)
def acct (s : ByteArray) : Int := match findW wages8 s with | some w => w.f5 | none => 0
theorem acct_ok : ∀ c ∈ codes8, (findW wages8 c).isSome = true ∧ 1000 ≤ acct c ∧ acct c ≤ 9999 := by decide +kernel
theorem code_in {s : ByteArray} (h : inCodes s = true) : s ∈ codes8 := by
  obtain ⟨c, hc, e⟩ := List.any_eq_true.1 h
  have := toList_inj (of_decide_eq_true e)
  rw [← this]; exact hc
/-- The entries of a drawn posting. -/
def entD (p : Ps) : List Bk := entL p.f0 p.f3.f0 p.f3.f2 (if p.f3.f0 = 1 then acct p.f3.f1 else 0)
theorem entsP_drawn {p : Ps} (h : p.f3.f0 = 1 → inCodes p.f3.f1 = true) : entsP wages8 p = some (entD p) := by
  unfold entsP entD
  by_cases c : p.f3.f0 = 1
  · rw [if_pos c, if_pos c]
    have h1 := (acct_ok _ (code_in (h c))).1
    unfold acct
    cases hf : findW wages8 p.f3.f1 with
    | none => rw [hf] at h1; cases h1
    | some x => rfl
  · rw [if_neg c, if_neg c]
theorem entsL_drawn : ∀ (l : List Ps), (∀ p ∈ l, p.f3.f0 = 1 → inCodes p.f3.f1 = true) → entsL wages8 l = some (l.flatMap entD)
  | [], _ => rfl
  | p :: r, h => by
    unfold entsL
    rw [entsP_drawn (h p List.mem_cons_self), Option.bind_some, entsL_drawn r fun q hq => h q (List.mem_cons_of_mem _ hq)]
    rfl
/-- A posting with a small amount. -/
structure PostS (c : Int) (p : Ps) : Prop where
  run : 0 ≤ p.f0 ∧ p.f0 ≤ 256
  lo : -c ≤ p.f3.f2
  hi : p.f3.f2 ≤ c
  code : p.f3.f0 = 1 → inCodes p.f3.f1 = true
theorem entB_eq {c : Int} (hc : c ≤ 1000000000000) {p : Ps} (h : PostS c p) (number s : Int) (hs : s = 1 ∨ s = -1) (h1 : 100 ≤ number) (h2 : number ≤ 9999) : okB (entB p.f0 number s p.f3.f2) = true ∧ -c ≤ (entB p.f0 number s p.f3.f2).f2 ∧ (entB p.f0 number s p.f3.f2).f2 ≤ c := by
  have hl := h.lo
  have hh := h.hi
  have e : (entB p.f0 number s p.f3.f2).f2 = s * p.f3.f2 := by
    show wrap64 (s * p.f3.f2) = _
    rcases hs with rfl | rfl
    · rw [wrapid (by omega) (by omega)]
    · rw [wrapid (by omega) (by omega)]
  have hb : -c ≤ s * p.f3.f2 ∧ s * p.f3.f2 ≤ c := by
    rcases hs with rfl | rfl <;> omega
  refine ⟨(okB_iff _).2 ⟨⟨h.run.1, h.run.2, h1, h2⟩, ?_⟩, by rw [e]; exact hb.1, by rw [e]; exact hb.2⟩
  rw [e]
  exact decide_eq_true (by omega)
theorem entD_small {c : Int} (hc : c ≤ 1000000000000) {p : Ps} (h : PostS c p) : SmallB c (entD p) := by
  have hn : p.f3.f0 = 1 → 1000 ≤ acct p.f3.f1 ∧ acct p.f3.f1 ≤ 9999 := fun h1 => (acct_ok _ (code_in (h.code h1))).2
  unfold entD entL
  intro x hx
  repeat' split at hx
  all_goals first
    | (simp only [List.mem_cons, List.not_mem_nil, or_false] at hx)
    | skip
  · rename_i h1
    subst hx
    have := hn h1
    exact entB_eq hc h _ _ (.inl rfl) (by omega) (by omega)
  all_goals first
    | (subst hx; exact entB_eq hc h _ _ (.inl rfl) (by omega) (by omega))
    | (subst hx; exact entB_eq hc h _ _ (.inr rfl) (by omega) (by omega))
    | (rcases hx with rfl | rfl
       · exact entB_eq hc h _ _ (.inl rfl) (by omega) (by omega)
       · exact entB_eq hc h _ _ (.inr rfl) (by omega) (by omega))
    | (exact absurd hx (by simp))
    | contradiction
theorem flat_small {c : Int} (hc : c ≤ 1000000000000) : ∀ (l : List Ps), (∀ p ∈ l, PostS c p) → SmallB c (l.flatMap entD) := by
  intro l h x hx
  obtain ⟨p, hp, hx⟩ := List.mem_flatMap.1 hx
  exact entD_small hc (h p hp) x hx
theorem flat_len : ∀ l : List Ps, (l.flatMap entD).length ≤ 2 * l.length
  | [] => by simp
  | p :: r => by
    have := flat_len r
    have h2 := entL_len p.f0 p.f3.f0 p.f3.f2 (if p.f3.f0 = 1 then acct p.f3.f1 else 0)
    rw [List.flatMap_cons, List.length_append, List.length_cons]
    unfold entD at *
    omega
/-- The entries of a small book. -/
theorem entries_small (l : List Ps) (hb : bookB l = true) (h : ∀ p ∈ l, PostS 1000000 p) (hl : l.length ≤ 200) : Ev (fun k => ledger_Entries.f k wages8 l) (bookedL (sumsB (l.flatMap entD)), 0) := by
  have h1 := entries_ev wages8 (by decide) true wages_valid l
  unfold entriesSpec at h1
  rw [hb, if_pos (by rfl), entsL_drawn l fun p hp => (h p hp).code] at h1
  have h2 := flat_len l
  have e1 : entEnd (some (l.flatMap entD)) [] = mergeB (l.flatMap entD) := rfl
  rw [e1, merge_small (c := 1000000) (by omega) _ (flat_small (by omega) l h) (by omega) (by omega)] at h1
  exact h1
theorem drawn_post {p : Ps} (h : Drawn1 p) : PostS 1000000 p := by
  obtain ⟨_, h1, h2, _, _, _, _, h7, h8, h9⟩ := h
  exact ⟨by omega, by omega, by omega, h9⟩
end Go.Proofs.Ytfakedchahildaa.Lib44
