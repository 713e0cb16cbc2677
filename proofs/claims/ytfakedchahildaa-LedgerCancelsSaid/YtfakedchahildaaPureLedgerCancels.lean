/- The entries of a run that is reversed cancel in the balances of the accounts: for every book that a deck draws. -/
import Derived.Test.YtfakedchahildaaLib44e
import Derived.Test.YtfakedchahildaaQx16
import Derived.Test.YtfakedchahildaaQx17
namespace Go.Proofs.Ytfakedchahildaa.Pure
open Go.RowKit Go.Proofs.Ytfakedchahildaa.Q Go.Proofs.YtfakedchahildaaW.PrintWords Go.Proofs.YtfakedchahildaaW.PrintLast Go.Proofs.Ytfakedchahildaa.DeckLib Go.Proofs.Ytfakedchahildaa.ListKit Go.Proofs.Ytfakedchahildaa.MapKit Go.Proofs.Ytfakedchahildaa.Lib34 Go.Proofs.Ytfakedchahildaa.Lib35 Go.Proofs.Ytfakedchahildaa.Lib44
def negP (b : Int) (p : Ps) : Ps := ⟨b, p.f1, p.f2, ⟨p.f3.f0, p.f3.f1, wrap64 (-p.f3.f2)⟩⟩
def undoL (a b : Int) : List Ps → List Ps
  | [] => []
  | p :: r => if p.f0 = a then negP b p :: undoL a b r else undoL a b r
def dropL (a : Int) : List Ps → List Ps
  | [] => []
  | p :: r => if p.f0 = a then dropL a r else p :: dropL a r
theorem undo_len (a b : Int) : ∀ l : List Ps, (undoL a b l).length ≤ l.length
  | [] => Nat.le_refl _
  | p :: r => by
    have := undo_len a b r
    unfold undoL
    split
    · simp only [List.length_cons]; omega
    · simp only [List.length_cons]; omega
theorem drop_len (a : Int) : ∀ l : List Ps, (dropL a l).length ≤ l.length
  | [] => Nat.le_refl _
  | p :: r => by
    have := drop_len a r
    unfold dropL
    split
    · simp only [List.length_cons]; omega
    · simp only [List.length_cons]; omega
theorem mem_undo {a b : Int} : ∀ {l : List Ps} {q : Ps}, q ∈ undoL a b l → ∃ p ∈ l, q = negP b p
  | [], q, h => by cases h
  | p :: r, q, h => by
    unfold undoL at h
    split at h
    · rcases List.mem_cons.1 h with h | h
      · exact ⟨p, List.mem_cons_self, h⟩
      · obtain ⟨p', hp, e⟩ := mem_undo h
        exact ⟨p', List.mem_cons_of_mem _ hp, e⟩
    · obtain ⟨p', hp, e⟩ := mem_undo h
      exact ⟨p', List.mem_cons_of_mem _ hp, e⟩
theorem mem_drop {a : Int} : ∀ {l : List Ps} {q : Ps}, q ∈ dropL a l → q ∈ l
  | [], q, h => h
  | p :: r, q, h => by
    unfold dropL at h
    split at h
    · exact List.mem_cons_of_mem _ (mem_drop h)
    · rcases List.mem_cons.1 h with h | h
      · rw [h]; exact List.mem_cons_self
      · exact List.mem_cons_of_mem _ (mem_drop h)
theorem undo_some (a b : Int) : ∀ l : List Ps, (∃ p ∈ l, p.f0 = a) → 0 < (undoL a b l).length
  | [], h => by obtain ⟨p, hp, _⟩ := h; cases hp
  | p :: r, h => by
    unfold undoL
    by_cases c : p.f0 = a
    · rw [if_pos c]; simp
    · rw [if_neg c]
      refine undo_some a b r ?_
      obtain ⟨q, hq, e⟩ := h
      rcases List.mem_cons.1 hq with rfl | hq
      · exact absurd e c
      · exact ⟨q, hq, e⟩
theorem rundo_loop (l : List Ps) (a b : Int) (hlen : l.length ≤ 65536) (hlast : ∀ p ∈ l, p.f0 < b) : ∀ (suf pre acc : List Ps), l = pre ++ suf → acc.length ≤ pre.length → 0 < (acc ++ undoL a b suf).length → Ev (fun k => payrollref35_Undo.l0 k l a b acc (pre.length : Int)) (acc ++ undoL a b suf, 0) := by
  intro suf
  induction suf with
  | nil =>
    intro pre acc h hacc hpos
    rw [show undoL a b [] = [] from rfl, List.append_nil] at hpos ⊢
    have hn : l.length = pre.length := by rw [h]; simp
    refine Ev.step (f := fun _ => some (acc, 0)) (fun k => ?_) (Ev.now _)
    simp only [payrollref35_Undo.l0]
    rcases List.eq_nil_or_concat l with h0 | ⟨init, q, h0⟩
    · rw [h0] at hn; simp at hn; omega
    · rw [List.concat_eq_append] at h0
      have hq : q.f0 < b := hlast q (by rw [h0]; simp)
      have hrd : rd_T28 l ((l.length : Int) - 1) = q := by
        have := rdP_mid init q []
        have e : (l.length : Int) - 1 = (init.length : Int) := by rw [h0]; simp
        rw [e, h0]; exact this
      rw [if_neg (by omega), if_neg (by omega), wrapid (x := (l.length : Int) - 1) (by omega) (by omega), if_pos (by omega), if_pos (by omega), hrd, if_neg (by omega)]
  | cons x suf ih =>
    intro pre acc h hacc hpos
    have hln : l.length = pre.length + suf.length + 1 := by rw [h]; simp; omega
    have hrd : rd_T28 l (pre.length : Int) = x := by rw [h]; exact rdP_mid pre x suf
    by_cases c : x.f0 = a
    · have e : undoL a b (x :: suf) = negP b x :: undoL a b suf := by rw [undoL, if_pos c]
      rw [e] at hpos ⊢
      have h2 := ih (pre ++ [x]) (acc ++ [negP b x]) (by rw [h]; simp) (by simp; omega) (by simpa using hpos)
      rw [List.append_assoc, List.singleton_append] at h2
      refine Ev.step (fun k => ?_) h2
      simp only [payrollref35_Undo.l0]
      rw [if_pos (by omega), if_pos (by omega), hrd, if_pos c, if_pos (by omega), wrapid (x := (pre.length : Int) + 1) (by omega) (by omega), lenP]
      rfl
    · have e : undoL a b (x :: suf) = undoL a b suf := by rw [undoL, if_neg c]
      rw [e] at hpos ⊢
      have h2 := ih (pre ++ [x]) acc (by rw [h]; simp) (by simp; omega) hpos
      refine Ev.step (fun k => ?_) h2
      simp only [payrollref35_Undo.l0]
      rw [if_pos (by omega), if_pos (by omega), hrd, if_neg c, wrapid (x := (pre.length : Int) + 1) (by omega) (by omega), lenP]
theorem neg_valid {p : Ps} (h : Drawn1 p) : validP (negP 50 p) = true ∧ PostS 1000000 (negP 50 p) := by
  obtain ⟨hv, h1, h2, h3, h4, h5, h6, h7, h8, h9⟩ := h
  have hw : wrap64 (-p.f3.f2) = -p.f3.f2 := wrapid (by omega) (by omega)
  refine ⟨?_, ⟨by show (0 : Int) ≤ 50 ∧ (50 : Int) ≤ 256; omega, by show -1000000 ≤ wrap64 (-p.f3.f2); omega, by show wrap64 (-p.f3.f2) ≤ 1000000; omega, h9⟩⟩
  unfold validP formL formS tot at hv ⊢
  simp only [negP, hw]
  simp only [Bool.and_eq_true, decide_eq_true_eq] at hv ⊢
  exact ⟨by omega, ⟨hv.2.1.1, by omega, hv.2.1.2.2⟩, by have := hv.2.2; omega⟩
theorem runsUp_add : ∀ (c a : List Ps), runsUp none a = true → (∀ q ∈ a, q.f0 ≤ 50) → (∀ x ∈ c, x.f0 = 50) → runsUp none (a ++ c) = true
  | [], a, h, _, _ => by rw [List.append_nil]; exact h
  | x :: r, a, h, h1, h2 => by
    have hx := h2 x List.mem_cons_self
    rw [show a ++ x :: r = (a ++ [x]) ++ r by simp]
    refine runsUp_add r (a ++ [x]) (runsUp_snoc a none x h (fun q hq => by rw [hx]; exact h1 q hq) rfl) (fun q hq => ?_) (fun y hy => h2 y (List.mem_cons_of_mem _ hy))
    rcases List.mem_append.1 hq with hq | hq
    · exact h1 q hq
    · rw [List.mem_singleton] at hq; subst hq; omega
theorem runsUp_drop (a : Int) : ∀ (l : List Ps) (prev q : Option Int), (∀ n, okAfter prev n = true → okAfter q n = true) → runsUp prev l = true → runsUp q (dropL a l) = true := by
  intro l
  induction l with
  | nil => intro _ _ _ _; rfl
  | cons p r ih =>
    intro prev q hq h
    simp only [runsUp, Bool.and_eq_true] at h
    unfold dropL
    by_cases c : p.f0 = a
    · rw [if_pos c]
      refine ih (some p.f0) q (fun n hn => ?_) h.2
      have h1 := hq _ h.1
      have h2 : p.f0 ≤ n := of_decide_eq_true hn
      cases q with
      | none => rfl
      | some m => exact decide_eq_true (Int.le_trans (of_decide_eq_true h1) h2)
    · rw [if_neg c]
      simp only [runsUp, Bool.and_eq_true]
      exact ⟨hq _ h.1, ih (some p.f0) (some p.f0) (fun _ hn => hn) h.2⟩
/-- The entries of what is undone are those of what was posted, negated. -/
theorem acct_neg (k : Int) {p : Ps} (h : Drawn1 p) : acctSum k (entD (negP 50 p)) = -acctSum k (entD p) := by
  obtain ⟨_, _, _, _, _, _, _, h7, h8, _⟩ := h
  have hw : wrap64 (-p.f3.f2) = -p.f3.f2 := wrapid (by omega) (by omega)
  have w1 : ∀ n s : Int, (s = 1 ∨ s = -1) → -600000 ≤ n → n ≤ 600000 → wrap64 (s * n) = s * n := by
    intro n s hs h1 h2
    rcases hs with rfl | rfl <;> exact wrapid (by omega) (by omega)
  have key : ∀ (number s : Int), (s = 1 ∨ s = -1) → acctSum k [entB 50 number s (-p.f3.f2)] = -acctSum k [entB p.f0 number s p.f3.f2] := by
    intro number s hs
    unfold acctSum gsum entB keyB amtB
    simp only [List.map_cons, List.map_nil, List.sum_cons, List.sum_nil]
    rw [w1 _ s hs (by omega) (by omega), w1 _ s hs (by omega) (by omega)]
    rcases hs with rfl | rfl <;> (split <;> omega)
  have key2 : ∀ (n1 s1 n2 s2 : Int), (s1 = 1 ∨ s1 = -1) → (s2 = 1 ∨ s2 = -1) → acctSum k [entB 50 n1 s1 (-p.f3.f2), entB 50 n2 s2 (-p.f3.f2)] = -acctSum k [entB p.f0 n1 s1 p.f3.f2, entB p.f0 n2 s2 p.f3.f2] := by
    intro n1 s1 n2 s2 hs1 hs2
    have a1 := key n1 s1 hs1
    have a2 := key n2 s2 hs2
    have sp : ∀ x y : Bk, acctSum k [x, y] = acctSum k [x] + acctSum k [y] := fun x y => gsum_append _ _ _ [x] [y]
    rw [sp, sp, a1, a2]; omega
  unfold entD entL negP
  simp only [hw]
  repeat' split
  all_goals first
    | exact key _ _ (.inl rfl)
    | exact key _ _ (.inr rfl)
    | exact key2 _ _ _ _ (.inl rfl) (.inr rfl)
    | rfl
    | (simp [acctSum, gsum]; done)
theorem acct_cancel (k a : Int) : ∀ l : List Ps, (∀ p ∈ l, Drawn1 p) → acctSum k (l.flatMap entD) + acctSum k ((undoL a 50 l).flatMap entD) = acctSum k ((dropL a l).flatMap entD)
  | [], _ => rfl
  | p :: r, h => by
    have ih := acct_cancel k a r fun q hq => h q (List.mem_cons_of_mem _ hq)
    have sp : ∀ x y : List Bk, acctSum k (x ++ y) = acctSum k x + acctSum k y := fun x y => gsum_append _ _ _ x y
    unfold undoL dropL
    by_cases c : p.f0 = a
    · rw [if_pos c, if_pos c, List.flatMap_cons, List.flatMap_cons, sp, sp, acct_neg k (h p List.mem_cons_self)]
      omega
    · rw [if_neg c, if_neg c, List.flatMap_cons, List.flatMap_cons, sp, sp]
      omega
theorem cancels_loop (b : List Ps) (a : Int) (e1 : Int) (x : List Bk) (e2 : Int) (hb : b.length ≤ 1000) (r : Bool) : ∀ (suf pre acc : List Ps), b = pre ++ suf → acc.length ≤ pre.length → Ev (fun k => payrolllaw44_LedgerCancels.l0 k b a e1 x e2 (acc ++ dropL a suf) (b.length : Int)) r → Ev (fun k => payrolllaw44_LedgerCancels.l0 k b a e1 x e2 acc (pre.length : Int)) r := by
  intro suf
  induction suf with
  | nil =>
    intro pre acc h _ h2
    rw [List.append_nil] at h
    rw [show dropL a [] = [] from rfl, List.append_nil] at h2
    rw [← h]; exact h2
  | cons p suf ih =>
    intro pre acc h ha h2
    have hln : b.length = pre.length + suf.length + 1 := by rw [h]; simp; omega
    have hrd : rd_T28 b (pre.length : Int) = p := by rw [h]; exact rdP_mid pre p suf
    by_cases c : p.f0 = a
    · have e : dropL a (p :: suf) = dropL a suf := by rw [dropL, if_pos c]
      rw [e] at h2
      refine Ev.step (fun k => ?_) (ih (pre ++ [p]) acc (by rw [h]; simp) (by simp; omega) h2)
      simp only [payrolllaw44_LedgerCancels.l0]
      rw [if_pos (by omega), if_pos (by omega), hrd, if_pos c, wrapid (x := (pre.length : Int) + 1) (by omega) (by omega), lenP]
    · have e : dropL a (p :: suf) = p :: dropL a suf := by rw [dropL, if_neg c]
      rw [e] at h2
      refine Ev.step (fun k => ?_) (ih (pre ++ [p]) (acc ++ [p]) (by rw [h]; simp) (by simp; omega) (by simpa using h2))
      simp only [payrolllaw44_LedgerCancels.l0]
      rw [if_pos (by omega), if_pos (by omega), hrd, if_neg c, if_pos (by omega), wrapid (x := (pre.length : Int) + 1) (by omega) (by omega), lenP]
theorem rdP_mem (l : List Ps) (i : Int) (h0 : 0 ≤ i) (h : i < (l.length : Int)) : rd_T28 l i ∈ l := by
  have hlt : i.toNat < l.length := by omega
  have e : rd_T28 l i = l[i.toNat] := by simp [rd_T28, List.getD_eq_getElem?_getD, List.getElem?_eq_getElem hlt]
  rw [e]
  exact List.getElem_mem hlt
theorem LedgerCancels : payrolllaw44_LedgerCancels.Pure := by
  intro l n _ _ _ _
  refine Ev.rounds (g := fun k => payrolllaw44_LedgerCancels.f k l n) ?_
  unfold payrolllaw44_LedgerCancels.f paygen_New.f
  simp only [Option.bind_some]
  obtain ⟨b, run, at2, hb, hd, hrun, hlen, _, _⟩ := book_ok l 5 (by omega) 0 (by omega) (by omega)
  refine Ev.bind hb ?_
  by_cases h0 : (b.length : Int) = 0
  · exact Ev.congr (fun k => if_pos h0) (Ev.bind awake_ev (Ev.now _))
  refine Ev.congr (fun k => if_neg h0) ?_
  obtain ⟨t, ht, t0, t1⟩ := mod_ok n (b.length : Int) (by omega) (by omega)
  have ht' : paygen_Mod.f n (b.length : Int) = some t := ht
  rw [ht']
  simp only [Option.bind_some]
  refine Ev.congr (fun k => (if_pos t0).trans (if_pos t1)) ?_
  have hq := rdP_mem b t t0 t1
  obtain ⟨a, ha⟩ : ∃ a, a = (rd_T28 b t).f0 := ⟨_, rfl⟩
  rw [← ha]
  have hex : ∃ p ∈ b, p.f0 = a := ⟨_, hq, ha.symm⟩
  have hbk := hd.book (by omega)
  have hpos := undo_some a 50 b hex
  have hundo : Ev (fun k => payrollref35_Undo.f k b a 50) (undoL a 50 b, 0) := by
    unfold payrollref35_Undo.f
    refine Ev.bind (rbook_ev b) ?_
    rw [hbk]
    refine Ev.congr (fun k => (if_pos rfl).trans (if_neg (by omega))) ?_
    have := rundo_loop b a 50 (by omega) (fun p hp => by have := hd.le p hp; omega) b [] [] rfl (Nat.le_refl _) (by simpa using hpos)
    exact Ev.step (fun k => by simp [payrollref35_Undo.j0]) this
  refine Ev.bind hundo (Ev.bind wages_ev ?_)
  have ul := undo_len a 50 b
  have dl := drop_len a b
  simp only [Option.bind_some, List.nil_append, List.length_nil, Nat.zero_add]
  refine Ev.congr (fun k => (if_pos (by omega)).trans (if_pos (by omega))) ?_
  have hu : ∀ p ∈ undoL a 50 b, validP p = true ∧ PostS 1000000 p := fun p hp => by
    obtain ⟨q, hq, rfl⟩ := mem_undo hp
    exact neg_valid (hd.each q hq)
  have hu50 : ∀ p ∈ undoL a 50 b, p.f0 = 50 := fun p hp => by
    obtain ⟨q, hq, rfl⟩ := mem_undo hp
    rfl
  have hall : ∀ p ∈ b ++ undoL a 50 b, validP p = true ∧ PostS 1000000 p := fun p hp => by
    rcases List.mem_append.1 hp with hp | hp
    · exact ⟨(hd.each p hp).1, drawn_post (hd.each p hp)⟩
    · exact hu p hp
  have hbu : bookB (b ++ undoL a 50 b) = true := by
    unfold bookB
    rw [decide_eq_true (by rw [List.length_append]; omega), runsUp_add _ b hd.up (fun q hq => by have := hd.le q hq; omega) hu50, List.all_eq_true.2 fun p hp => (hall p hp).1]; rfl
  refine Ev.bind (entries_small (b ++ undoL a 50 b) hbu (fun p hp => (hall p hp).2) (by rw [List.length_append]; omega)) ?_
  have hdrop : bookB (dropL a b) = true := by
    unfold bookB
    rw [decide_eq_true (by omega), runsUp_drop a b none none (fun _ h => h) hd.up, List.all_eq_true.2 fun p hp => (hd.each p (mem_drop hp)).1]; rfl
  refine cancels_loop b a 0 _ 0 (by omega) true b [] [] rfl (Nat.le_refl _) ?_
  rw [List.nil_append]
  have hdp : ∀ p ∈ dropL a b, PostS 1000000 p := fun p hp => drawn_post (hd.each p (mem_drop hp))
  obtain ⟨A, hA⟩ : ∃ A, A = (b ++ undoL a 50 b).flatMap entD := ⟨_, rfl⟩
  obtain ⟨B, hB⟩ : ∃ B, B = (dropL a b).flatMap entD := ⟨_, rfl⟩
  have sA : SmallB 1000000 A := by rw [hA]; exact flat_small (by omega) _ fun p hp => (hall p hp).2
  have sB : SmallB 1000000 B := by rw [hB]; exact flat_small (by omega) _ hdp
  have lA : A.length ≤ 2 * (b ++ undoL a 50 b).length := by rw [hA]; exact flat_len _
  have lB : B.length ≤ 2 * (dropL a b).length := by rw [hB]; exact flat_len _
  rw [List.length_append] at lA
  have hEntB := entries_small (dropL a b) hdrop hdp (by omega)
  rw [← hB] at hEntB
  rw [← hA]
  have mA := (merged_small (c := 1000000) (by omega) A sA (by omega)).mono (d := 100000000) (by omega)
  have mB := (merged_small (c := 1000000) (by omega) B sB (by omega)).mono (d := 100000000) (by omega)
  have kA := bookedL_len A
  have kB := bookedL_len B
  have e2 := trial_small (c := 100000000) (by omega) (bookedL (sumsB A)) mA (by omega) (by omega)
  have e3 := trial_small (c := 100000000) (by omega) (bookedL (sumsB B)) mB (by omega) (by omega)
  have f2 : bookedL (sumsB ((bookedL (sumsB A)).map noRun)) = bookedL (sumsB ((bookedL (sumsB B)).map noRun)) := by
    refine trial_ext fun k => ?_
    rw [acct_merged (c := 1000000) (by omega) A sA (by omega) k, acct_merged (c := 1000000) (by omega) B sB (by omega) k, hA, hB, List.flatMap_append, ← acct_cancel k a b hd.each]
    exact gsum_append _ _ _ _ _
  have hT1 := trial_ev (bookedL (sumsB A)) (by omega)
  have hT2 := trial_ev (bookedL (sumsB B)) (by omega)
  rw [e2, f2] at hT1
  rw [e3] at hT2
  refine Ev.step (f := fun k => (payrolllaw44_wages.f k).bind fun t527 => ((ledger_Entries.f k t527 (dropL a b)).bind fun bt530 => ((ledger_Trial.f k (bookedL (sumsB A))).bind fun bt534 => ((ledger_Trial.f k bt530.1).bind fun bt538 => (if bt530.2 = 0 then (if bt534.2 = 0 then (if bt538.2 = 0 then ((payrollref44_Same.f k bt534.1 bt538.1).bind fun t542 => (if t542 = true then ((payrolllaw44_awake.f k).bind fun t543 => (some t543)) else (none))) else (none)) else (none)) else (none)))))) (fun k => ?_) ?_
  · simp only [payrolllaw44_LedgerCancels.l0]
    rw [if_neg (by omega)]
    simp only [if_true]
  · refine Ev.bind wages_ev (Ev.bind hEntB (Ev.bind hT1 (Ev.bind hT2 ?_)))
    simp only [if_true]
    refine Ev.bind (same44_self _ (by have := bookedL_len ((bookedL (sumsB B)).map noRun); rw [List.length_map] at this; omega)) ?_
    exact Ev.congr (fun k => if_pos rfl) (Ev.bind awake_ev (Ev.now _))
end Go.Proofs.Ytfakedchahildaa.Pure
