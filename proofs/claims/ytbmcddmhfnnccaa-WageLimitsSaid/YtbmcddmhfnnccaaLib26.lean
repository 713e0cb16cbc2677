/- Wage types and elements: package wage and its reference answer the same. Plain Lean over the printed functions. -/
import Derived.Test.YtbmcddmhfnnccaaLib17
import Derived.Test.YtbmcddmhfnnccaaListKit3
import Derived.Test.YtbmcddmhfnnccaaQx5
import Derived.Test.YtbmcddmhfnnccaaQx6
import Derived.Test.YtbmcddmhfnnccaaQx7
import Derived.Test.YtbmcddmhfnnccaaQx8
import Derived.Test.YtbmcddmhfnnccaaQx13
namespace Go.Proofs.Ytbmcddmhfnnccaa.Lib26
open Go.RowKit Go.Proofs.Ytbmcddmhfnnccaa.Q Go.Proofs.YtbmcddmhfnnccaaW.PrintWords Go.Proofs.YtbmcddmhfnnccaaW.PrintLast Go.Proofs.Ytbmcddmhfnnccaa.MapKit Go.Proofs.Ytbmcddmhfnnccaa.ListKit Go.Proofs.Ytbmcddmhfnnccaa.Lib17
abbrev El := S44
abbrev Wg := S31
theorem awake_ev : Ev (fun k => payrolllaw26_awake.f k) true := Ev.of payrolllaw26_awake.mono (k := 100) (by decide +kernel)
theorem rdE_mid (pre : List El) (x : El) (suf : List El) : rd_T44 (pre ++ x :: suf) (pre.length : Int) = x := by
  simp [rd_T44, List.getD_eq_getElem?_getD]
theorem lenE (pre : List El) (x : El) : ((pre ++ [x]).length : Int) = (pre.length : Int) + 1 := by simp
theorem rdW_mid (pre : List Wg) (x : Wg) (suf : List Wg) : rd_T31 (pre ++ x :: suf) (pre.length : Int) = x := by
  simp [rd_T31, List.getD_eq_getElem?_getD]
theorem lenW (pre : List Wg) (x : Wg) : ((pre ++ [x]).length : Int) = (pre.length : Int) + 1 := by simp
/-! ### sums -/
def codeE (e : El) : Str := ⟨e.f0⟩
def amtE (e : El) : Int := e.f1
theorem addAll_eq (l : List El) : addAll l = addsG ltB codeE amtE [] l := rfl
def sumsS (l : List El) : List (Str × Int) × Int :=
  if (l.length : Int) > 128 then ([], 3) else if l.all (fun e => nameS e.f0) = true then (if l.all (fun e => amt e.f1) = true then (if (addAll l).all (fun p => amt p.2) = true then (addAll l, 0) else ([], 4)) else ([], 2)) else ([], 7)
theorem nameAll_ev : ∀ l : List El, Ev (fun k => nameAll k l) (l.all fun e => nameS e.f0)
  | [] => Ev.now _
  | x :: r => by
    unfold nameAll
    rw [List.all_cons]
    refine Ev.bind (name_ev x.f0) ?_
    cases nameS x.f0 with
    | true => rw [Bool.true_and]; exact Ev.congr (fun k => if_pos rfl) (nameAll_ev r)
    | false => rw [Bool.false_and]; exact Ev.congr (fun k => if_neg (by simp)) (Ev.now _)
theorem sums_ev (l : List El) : Ev (fun k => wage_sums.f k l) (sumsS l) := by
  unfold wage_sums.f sumsS
  by_cases h : (l.length : Int) > 128
  · rw [if_pos h]; exact Ev.congr (fun k => if_pos h) (Ev.now _)
  rw [if_neg h]
  refine Ev.congr (fun k => if_neg h) (Ev.bind (nameAll_ev l) ?_)
  by_cases h2 : (l.all fun e => nameS e.f0) = true
  · rw [if_pos h2, if_pos h2]
    by_cases h3 : l.all (fun e => amt e.f1) = true
    · rw [if_pos h3, if_pos h3]
      by_cases h4 : (addAll l).all (fun p => amt p.2) = true
      · rw [if_pos h4, if_pos h4]; exact Ev.now _
      · rw [if_neg h4, if_neg h4]; exact Ev.now _
    · rw [if_neg h3, if_neg h3]; exact Ev.now _
  · rw [if_neg h2, if_neg h2]; exact Ev.now _
def mergeE (l : List El) : List El × Int := if (sumsS l).2 = 0 then (elts (sumsS l).1, 0) else ([], (sumsS l).2)
theorem merge_ev (l : List El) : Ev (fun k => wage_Merge.f k l) (mergeE l) := by
  unfold wage_Merge.f mergeE
  refine Ev.bind (sums_ev l) ?_
  by_cases h : (sumsS l).2 = 0
  · rw [if_pos h, if_pos h]; exact Ev.now _
  · rw [if_neg h, if_neg h]; exact Ev.now _
/-! ### the reference's sums -/
def toEs (m : List (Str × Int)) : List El := m.map toE
theorem toEs_append (a b : List (Str × Int)) : toEs (a ++ b) = toEs a ++ toEs b := by simp [toEs]
theorem toEs_len (a : List (Str × Int)) : (toEs a).length = a.length := by simp [toEs]
theorem ramt_eq (n : Int) : payrollref26_Amount.f n = some (amt n) := by
  unfold payrollref26_Amount.f amt
  by_cases h : n ≥ (-1000000000)
  · rw [if_pos h]; congr 1; by_cases h2 : n ≤ 1000000000
    · rw [decide_eq_true h2, decide_eq_true ⟨h, h2⟩]
    · rw [decide_eq_false h2, decide_eq_false (fun c => h2 c.2)]
  · rw [if_neg h]; rw [decide_eq_false (fun c => h c.1)]
theorem put_skip (x : El) : ∀ (s pre b : List (Str × Int)) (r : List El), (∀ q ∈ s, ltB q.1 (codeE x) = true) → (pre ++ s ++ b).length ≤ 1000000 →
    Ev (fun k => payrollref26_Put.l0 k (toEs (pre ++ s ++ b)) (toEs (pre ++ s)) ((pre ++ s).length : Int) x.f0 x.f1) r →
    Ev (fun k => payrollref26_Put.l0 k (toEs (pre ++ s ++ b)) (toEs pre) (pre.length : Int) x.f0 x.f1) r := by
  intro s
  induction s with
  | nil => intro pre b r _ _ h; simpa using h
  | cons q s ih =>
    intro pre b r hs hl h
    have hq := hs q List.mem_cons_self
    have h2 := ih (pre ++ [q]) b r (fun p hp => hs p (List.mem_cons_of_mem _ hp)) (by simpa using hl) (by simpa using h)
    refine Ev.step (fun k => ?_) h2
    simp only [payrollref26_Put.l0]
    have hlen : (pre ++ q :: s ++ b).length = pre.length + (s.length + b.length) + 1 := by simp; omega
    have hrd : rd_T44 (toEs (pre ++ q :: s ++ b)) (pre.length : Int) = toE q := by
      have := rdE_mid (toEs pre) (toE q) (toEs (s ++ b))
      rw [toEs_len] at this
      rw [← this]
      congr 1
      simp [toEs]
    have hk : Op.bytesLess (toE q).f0.toList x.f0.toList = true := hq
    rw [if_pos (by rw [toEs_len]; omega), if_pos (by omega), hrd, if_pos hk, if_pos (by rw [toEs_len]; omega), wrapid (x := (pre.length : Int) + 1) (by omega) (by omega)]
    have e : ((pre ++ [q]).length : Int) = (pre.length : Int) + 1 := by simp
    rw [show pre ++ [q] ++ s ++ b = pre ++ q :: s ++ b by simp, e]
    congr 1
    simp [toEs]
theorem rput_ev (m : List (Str × Int)) (hm : Asc ltB m) (hl : m.length ≤ 900000) (x : El) (hx : -9223372036854775808 ≤ x.f1 ∧ x.f1 ≤ 9223372036854775807) : Ev (fun k => payrollref26_Put.f k (toEs m) x.f0 x.f1) (toEs (addG ltB codeE amtE m x)) := by
  unfold payrollref26_Put.f
  obtain ⟨a, b, hab, ha, hc⟩ := put_split orderB m hm (codeE x) (wrap64 ((m.lookup (codeE x)).getD 0 + amtE x))
  have h0 := put_skip x a [] b (toEs (addG ltB codeE amtE m x)) ha (by rw [List.nil_append, ← hab]; omega)
  simp only [List.nil_append, List.length_nil] at h0
  rw [show ((0 : Nat) : Int) = 0 from rfl, ← hab] at h0
  refine h0 ?_
  clear h0
  unfold addG
  have hlen : m.length = a.length + b.length := by rw [hab]; simp
  have hdrop : ∀ n : Nat, n = a.length → (toEs m).drop n = toEs b := fun n hn => by rw [hab, toEs_append, hn, ← toEs_len a, List.drop_left]
  rcases hc with ⟨w, b', hb, hput, hlk⟩ | ⟨hb, hput, hlk⟩
  · rw [hput, hlk]
    subst hb
    have hrd : rd_T44 (toEs m) (a.length : Int) = toE (codeE x, w) := by
      have := rdE_mid (toEs a) (toE (codeE x, w)) (toEs b')
      rw [toEs_len] at this
      rw [← this, hab]
      congr 1
      simp [toEs]
    have hd : (toEs m).drop (a.length + 1) = toEs b' := by
      rw [hab, show a ++ (codeE x, w) :: b' = (a ++ [(codeE x, w)]) ++ b' by simp, toEs_append, show a.length + 1 = (toEs (a ++ [(codeE x, w)])).length by rw [toEs_len]; simp, List.drop_left]
    have hk : Op.bytesLess (toE (codeE x, w)).f0.toList x.f0.toList = false := orderB.irrefl (codeE x)
    simp only [List.length_cons] at hlen
    refine Ev.step (f := fun _ => some (toEs (a ++ (codeE x, wrap64 (w + x.f1)) :: b'))) (fun k => ?_) (Ev.now _)
    simp only [payrollref26_Put.l0]
    rw [if_pos (by rw [toEs_len]; omega), if_pos (by omega), hrd, hk, if_neg (by simp), if_pos (show (toE (codeE x, w)).f0.toList = x.f0.toList from rfl), if_pos (by rw [toEs_len]; omega), Option.bind_some]
    rw [wrapid (x := (a.length : Int) + 1) (by omega) (by omega), if_pos (by omega), if_pos (by rw [toEs_len]; omega), Option.bind_some, show ((a.length : Int) + 1).toNat = a.length + 1 by omega, hd, if_pos (by simp [toEs_len]; omega)]
    rw [Int.add_comm x.f1]
    simp [toEs, toE, codeE]
  · rw [hput, hlk]
    rw [Option.getD_none, Int.zero_add, show amtE x = x.f1 from rfl, wrapid hx.1 hx.2]
    have hout : toEs a ++ [(⟨x.f0, x.f1⟩ : El)] ++ toEs b = toEs (a ++ (codeE x, x.f1) :: b) := by simp [toEs, toE, codeE]
    refine Ev.step (f := fun _ => some (toEs (a ++ (codeE x, x.f1) :: b))) (fun k => ?_) (Ev.now _)
    simp only [payrollref26_Put.l0]
    rcases b with _ | ⟨⟨y, w⟩, b'⟩
    · rw [if_neg (by rw [toEs_len]; simp at hlen; omega), if_pos (by rw [toEs_len]; omega), Option.bind_some, if_pos (by omega), if_pos (by rw [toEs_len]; omega), Option.bind_some, Int.toNat_natCast, hdrop _ rfl, if_pos (by simp [toEs_len]; omega), hout]
    · have hrd : rd_T44 (toEs m) (a.length : Int) = toE (y, w) := by
        have := rdE_mid (toEs a) (toE (y, w)) (toEs b')
        rw [toEs_len] at this
        rw [← this, hab]
        congr 1
        simp [toEs]
      have hy : ltB (codeE x) y = true := hb (y, w) List.mem_cons_self
      have hk : Op.bytesLess (toE (y, w)).f0.toList x.f0.toList = false := orderB.asym hy
      have hne : ¬ (toE (y, w)).f0.toList = x.f0.toList := fun e => by
        have : y = codeE x := Str.inj (toList_inj e)
        rw [this, orderB.irrefl] at hy
        cases hy
      simp only [List.length_cons] at hlen
      rw [if_pos (by rw [toEs_len]; omega), if_pos (by omega), hrd, hk, if_neg (by simp), if_neg hne, if_pos (by rw [toEs_len]; omega), Option.bind_some, if_pos (by rw [toEs_len]; omega), Option.bind_some, Int.toNat_natCast, hdrop _ rfl, if_pos (by simp [toEs_len]; omega), hout]
theorem rcheck_loop (m : List El) (hl : m.length ≤ 900000) : ∀ (suf pre : List El), m = pre ++ suf → Ev (fun k => payrollref26_sums.l2 k m (pre.length : Int)) (if suf.all (fun e => amt e.f1) = true then (m, 0) else ([], 4)) := by
  intro suf
  induction suf with
  | nil =>
    intro pre h
    refine Ev.step (f := fun _ => some (m, 0)) (fun k => ?_) (Ev.now _)
    simp only [payrollref26_sums.l2]
    rw [if_neg (by rw [h]; simp)]
  | cons x suf ih =>
    intro pre h
    have hlen : m.length = pre.length + suf.length + 1 := by rw [h]; simp; omega
    have hrd : rd_T44 m (pre.length : Int) = x := by rw [h]; exact rdE_mid pre x suf
    refine Ev.step (f := fun k => if amt x.f1 = true then payrollref26_sums.l2 k m ((pre ++ [x]).length : Int) else some ([], 4)) (fun k => ?_) ?_
    · simp only [payrollref26_sums.l2]
      rw [if_pos (by omega), if_pos (by omega), hrd, ramt_eq, Option.bind_some, wrapid (x := (pre.length : Int) + 1) (by omega) (by omega), lenE]
    · rw [List.all_cons]
      cases amt x.f1 with
      | true => rw [Bool.true_and]; exact Ev.congr (fun k => if_pos rfl) (ih (pre ++ [x]) (by rw [h]; simp))
      | false => rw [Bool.false_and]; exact Ev.congr (fun k => if_neg (by simp)) (Ev.now _)
theorem toEs_all (m : List (Str × Int)) : (toEs m).all (fun e => amt e.f1) = m.all (fun p => amt p.2) := by
  unfold toEs
  rw [List.all_map]; rfl
theorem addAll_len' (l : List El) : (addAll l).length ≤ l.length := by
  have := addsG_len (lt := ltB) (f := codeE) (g := amtE) l []
  simpa [addAll_eq] using this
theorem rsums_l1 (l : List El) (hl : l.length ≤ 1000) : ∀ (suf pre : List El), l = pre ++ suf → Ev (fun k => payrollref26_sums.l1 k l (toEs (addAll pre)) (pre.length : Int)) (if suf.all (fun e => amt e.f1) = true then (if (addAll l).all (fun p => amt p.2) = true then (toEs (addAll l), 0) else ([], 4)) else ([], 2)) := by
  intro suf
  induction suf with
  | nil =>
    intro pre h
    rw [List.append_nil] at h
    subst h
    have h2 := rcheck_loop (toEs (addAll l)) (by rw [toEs_len]; have := addAll_len' l; omega) (toEs (addAll l)) [] rfl
    rw [toEs_all] at h2
    refine Ev.step (fun k => ?_) h2
    simp only [payrollref26_sums.l1]
    rw [if_neg (by simp)]
    rfl
  | cons x suf ih =>
    intro pre h
    have h2 := ih (pre ++ [x]) (by rw [h]; simp)
    have hlen : l.length = pre.length + suf.length + 1 := by rw [h]; simp; omega
    have hrd : rd_T44 l (pre.length : Int) = x := by rw [h]; exact rdE_mid pre x suf
    have hal := addAll_len' pre
    refine Ev.step (f := fun k => if amt x.f1 = true then (payrollref26_Put.f k (toEs (addAll pre)) x.f0 x.f1).bind fun t => payrollref26_sums.l1 k l t ((pre ++ [x]).length : Int) else some ([], 2)) (fun k => ?_) ?_
    · simp only [payrollref26_sums.l1]
      rw [if_pos (by omega), if_pos (by omega), hrd, ramt_eq, Option.bind_some, wrapid (x := (pre.length : Int) + 1) (by omega) (by omega), lenE]
    · rw [List.all_cons]
      cases ha : amt x.f1 with
      | false => rw [Bool.false_and]; exact Ev.congr (fun k => if_neg (by simp)) (Ev.now _)
      | true =>
        rw [Bool.true_and]
        have hb : -1000000000 ≤ x.f1 ∧ x.f1 ≤ 1000000000 := of_decide_eq_true ha
        refine Ev.congr (fun k => if_pos rfl) (Ev.bind (rput_ev (addAll pre) (addAll_asc pre) (by omega) x (by omega)) ?_)
        rw [show addG ltB codeE amtE (addAll pre) x = addAll (pre ++ [x]) from (addAll_snoc pre x).symm]
        exact h2
theorem rsums_l0 (l : List El) (hl : l.length ≤ 1000) : ∀ (suf pre : List El), l = pre ++ suf → Ev (fun k => payrollref26_sums.l0 k l (pre.length : Int)) (if suf.all (fun e => nameS e.f0) = true then (if l.all (fun e => amt e.f1) = true then (if (addAll l).all (fun p => amt p.2) = true then (toEs (addAll l), 0) else ([], 4)) else ([], 2)) else ([], 7)) := by
  intro suf
  induction suf with
  | nil =>
    intro pre h
    refine Ev.step (fun k => ?_) (rsums_l1 l hl l [] rfl)
    simp only [payrollref26_sums.l0]
    rw [if_neg (by rw [h]; simp)]
    rfl
  | cons x suf ih =>
    intro pre h
    have h2 := ih (pre ++ [x]) (by rw [h]; simp)
    have hlen : l.length = pre.length + suf.length + 1 := by rw [h]; simp; omega
    have hrd : rd_T44 l (pre.length : Int) = x := by rw [h]; exact rdE_mid pre x suf
    refine Ev.step (f := fun k => (payrollref17_IsName.f k x.f0).bind fun t => if t = true then payrollref26_sums.l0 k l ((pre ++ [x]).length : Int) else some ([], 7)) (fun k => ?_) ?_
    · simp only [payrollref26_sums.l0]
      rw [if_pos (by omega), if_pos (by omega), hrd, wrapid (x := (pre.length : Int) + 1) (by omega) (by omega), lenE]
    · refine Ev.bind (rname_ev x.f0) ?_
      rw [List.all_cons]
      cases nameS x.f0 with
      | true => rw [Bool.true_and]; exact Ev.congr (fun k => if_pos rfl) h2
      | false => rw [Bool.false_and]; exact Ev.congr (fun k => if_neg (by simp)) (Ev.now _)
theorem rsums_ev (l : List El) : Ev (fun k => payrollref26_sums.f k l) (toEs (sumsS l).1, (sumsS l).2) := by
  unfold payrollref26_sums.f sumsS
  by_cases h : (l.length : Int) > 128
  · rw [if_pos h]; exact Ev.congr (fun k => if_pos h) (Ev.now _)
  rw [if_neg h]
  refine Ev.congr (fun k => if_neg h) ?_
  have h2 := rsums_l0 l (by omega) l [] rfl
  by_cases c1 : (l.all fun e => nameS e.f0) = true
  · rw [if_pos c1] at h2 ⊢
    by_cases c2 : l.all (fun e => amt e.f1) = true
    · rw [if_pos c2] at h2 ⊢
      by_cases c3 : (addAll l).all (fun p => amt p.2) = true
      · rw [if_pos c3] at h2 ⊢; exact h2
      · rw [if_neg c3] at h2 ⊢; exact h2
    · rw [if_neg c2] at h2 ⊢; exact h2
  · rw [if_neg c1] at h2 ⊢; exact h2
theorem sumsS_len (l : List El) : (sumsS l).1.length ≤ 128 := by
  unfold sumsS
  have := addAll_len' l
  repeat' split
  all_goals first | (simp; done) | skip
  simp only []
  omega
theorem rmerge_loop (m : List (Str × Int)) (hl : m.length ≤ 900000) : ∀ (suf pre : List (Str × Int)), m = pre ++ suf → Ev (fun k => payrollref26_Merge.l0 k (toEs m) (elts pre) (pre.length : Int)) (elts m, 0) := by
  intro suf
  induction suf with
  | nil =>
    intro pre h
    rw [List.append_nil] at h
    subst h
    refine Ev.step (f := fun _ => some (elts m, 0)) (fun k => ?_) (Ev.now _)
    simp only [payrollref26_Merge.l0]
    rw [if_neg (by rw [toEs_len]; omega)]
  | cons q suf ih =>
    intro pre h
    have h2 := ih (pre ++ [q]) (by rw [h]; simp)
    have hlen : m.length = pre.length + suf.length + 1 := by rw [h]; simp; omega
    have hll : (elts pre).length ≤ pre.length := by unfold elts; rw [List.length_map]; exact List.length_filter_le _ _
    have hrd : rd_T44 (toEs m) (pre.length : Int) = toE q := by
      have := rdE_mid (toEs pre) (toE q) (toEs suf)
      rw [toEs_len] at this
      rw [← this, h]; congr 1; simp [toEs]
    refine Ev.step (fun k => ?_) h2
    simp only [payrollref26_Merge.l0]
    have e : ((pre ++ [q]).length : Int) = (pre.length : Int) + 1 := by simp
    rw [if_pos (by rw [toEs_len]; omega), if_pos (by omega), hrd, show (toE q).f1 = q.2 from rfl, wrapid (x := (pre.length : Int) + 1) (by omega) (by omega), elts_snoc, e]
    by_cases c : q.2 = 0
    · rw [if_pos c, if_pos c, List.append_nil]
    · rw [if_neg c, if_neg c, if_pos (by omega)]; rfl
theorem rmerge_ev (l : List El) : Ev (fun k => payrollref26_Merge.f k l) (mergeE l) := by
  unfold payrollref26_Merge.f mergeE
  refine Ev.bind (rsums_ev l) ?_
  by_cases h : (sumsS l).2 = 0
  · rw [if_pos h]
    exact Ev.congr (fun k => if_pos h) (rmerge_loop (sumsS l).1 (by have := sumsS_len l; omega) (sumsS l).1 [] rfl)
  · rw [if_neg h]; exact Ev.congr (fun k => if_neg h) (Ev.now _)
theorem same26_loop : ∀ (suf pre : List El), pre.length + suf.length ≤ 1000000 → Ev (fun k => payrollref26_Same.l0 k (pre ++ suf) (pre ++ suf) (pre.length : Int)) true := by
  intro suf
  induction suf with
  | nil =>
    intro pre _
    refine Ev.step (f := fun _ => some true) (fun k => ?_) (Ev.now _)
    simp only [payrollref26_Same.l0]
    rw [if_neg (by simp)]
  | cons x suf ih =>
    intro pre hl
    have h := ih (pre ++ [x]) (by simp at hl ⊢; omega)
    rw [List.append_assoc, List.singleton_append] at h
    refine Ev.step (fun k => ?_) h
    simp only [payrollref26_Same.l0]
    simp only [List.length_cons] at hl
    rw [if_pos (by simp; omega), if_pos (by omega), if_pos (by simp; omega), if_neg (by simp), wrapid (by omega) (by omega), lenE]
theorem same26_self (l : List El) (hl : l.length ≤ 1000000) : Ev (fun k => payrollref26_Same.f k l l) true := by
  unfold payrollref26_Same.f
  exact Ev.congr (fun k => if_pos rfl) (same26_loop l [] (by simpa using hl))
theorem mergeE_len (l : List El) : (mergeE l).1.length ≤ 128 := by
  unfold mergeE
  by_cases h : (sumsS l).2 = 0
  · rw [if_pos h]
    have := sumsS_len l
    have h2 : (elts (sumsS l).1).length ≤ (sumsS l).1.length := by unfold elts; rw [List.length_map]; exact List.length_filter_le _ _
    simp only []
    omega
  · rw [if_neg h]; simp
/-! ### wage types -/
def findS (l : List Wg) (c : ByteArray) : ByteArray × Int × Bool × Bool × Bool × Int × Bool := match findW l c with | some w => (w.f0, w.f1, w.f2, w.f3, w.f4, w.f5, true) | none => ((⟨#[]⟩ : ByteArray), 0, false, false, false, 0, false)
theorem find_ev (l : List Wg) (c : ByteArray) (hl : l.length ≤ 1000000) : Ev (fun k => wage_Find.f k l c) (findS l c) := Ev.of (wage_Find.mono l c) (k := l.length + 1) (find_eq l c _ hl (by omega))
theorem findS_cons (p : Wg) (r : List Wg) (c : ByteArray) : findS (p :: r) c = if p.f0.toList = c.toList then (p.f0, p.f1, p.f2, p.f3, p.f4, p.f5, true) else findS r c := by
  unfold findS findW
  by_cases h : p.f0.toList = c.toList
  · rw [if_pos h, List.find?_cons_of_pos (by simpa using h)]
  · rw [if_neg h, List.find?_cons_of_neg (by simpa using h)]
theorem rfind_loop (c : ByteArray) (l : List Wg) (hl : l.length ≤ 1000000) : ∀ (suf pre : List Wg), l = pre ++ suf → Ev (fun k => payrollref26_Find.l0 k l c (pre.length : Int)) (findS suf c) := by
  intro suf
  induction suf with
  | nil =>
    intro pre h
    refine Ev.step (f := fun _ => some (findS [] c)) (fun k => ?_) (Ev.now _)
    simp only [payrollref26_Find.l0]
    rw [if_neg (by rw [h]; simp)]
    rfl
  | cons p suf ih =>
    intro pre h
    have h2 := ih (pre ++ [p]) (by rw [h]; simp)
    have hlen : l.length = pre.length + suf.length + 1 := by rw [h]; simp; omega
    have hrd : rd_T31 l (pre.length : Int) = p := by rw [h]; exact rdW_mid pre p suf
    rw [findS_cons]
    by_cases c1 : p.f0.toList = c.toList
    · rw [if_pos c1]
      refine Ev.step (f := fun _ => some (p.f0, p.f1, p.f2, p.f3, p.f4, p.f5, true)) (fun k => ?_) (Ev.now _)
      simp only [payrollref26_Find.l0]
      rw [if_pos (by omega), if_pos (by omega), hrd, if_pos c1]
    · rw [if_neg c1]
      refine Ev.step (fun k => ?_) h2
      simp only [payrollref26_Find.l0]
      rw [if_pos (by omega), if_pos (by omega), hrd, if_neg c1, wrapid (x := (pre.length : Int) + 1) (by omega) (by omega), lenW]
theorem rfind_ev (l : List Wg) (c : ByteArray) (hl : l.length ≤ 1000000) : Ev (fun k => payrollref26_Find.f k l c) (findS l c) := rfind_loop c l hl l [] rfl
/-- A wage type that is none; a code that comes too late. -/
def badW (w : Wg) : Bool := ((w.f1 != 1) && (w.f1 != 2)) || (((w.f1 == 2) && w.f4) || (decide (w.f5 < 1000) || decide (w.f5 > 9999)))
def lateW (prev : Option ByteArray) (c : ByteArray) : Bool := match prev with | some p => !(Op.bytesLess p.toList c.toList) | none => false
def wv : Option ByteArray → List Wg → Bool
  | _, [] => true
  | prev, w :: r => nameS w.f0 && (!lateW prev w.f0 && (!badW w && wv (some w.f0) r))
def validW (l : List Wg) : Bool := decide (l.length ≤ 64) && wv none l
def lastW (l : List Wg) : Option ByteArray := l.getLast?.map (·.f0)
theorem lastW_snoc (l : List Wg) (p : Wg) : lastW (l ++ [p]) = some p.f0 := by simp [lastW]
theorem valid_loop (l : List Wg) (hl : l.length ≤ 64) : ∀ (suf pre : List Wg), l = pre ++ suf → Ev (fun k => wage_Valid.l0 k l l (l.length : Int) (pre.length : Int)) (wv (lastW pre) suf) := by
  intro suf
  induction suf with
  | nil =>
    intro pre h
    refine Ev.step (f := fun _ => some true) (fun k => ?_) (Ev.now _)
    simp only [wage_Valid.l0]
    rw [if_neg (by rw [h]; simp)]
  | cons x suf ih =>
    intro pre h
    have h2 := ih (pre ++ [x]) (by rw [h]; simp)
    rw [lastW_snoc] at h2
    have hlen : l.length = pre.length + suf.length + 1 := by rw [h]; simp; omega
    have hrd : rd_T31 l (pre.length : Int) = x := by rw [h]; exact rdW_mid pre x suf
    have hj2 : Ev (fun k => wage_Valid.j2 k l l (l.length : Int) (pre.length : Int) false x.f0 x.f1 x.f2 x.f3 x.f4 x.f5) (if x.f5 < 1000 then false else if x.f5 > 9999 then false else wv (some x.f0) suf) := by
      refine Ev.step (f := fun k => if x.f5 < 1000 then some false else if x.f5 > 9999 then some false else wage_Valid.l0 k l l (l.length : Int) ((pre ++ [x]).length : Int)) (fun k => ?_) ?_
      · simp only [wage_Valid.j2]
        rw [if_neg (by simp), wrapid (x := (pre.length : Int) + 1) (by omega) (by omega), lenW]
      · by_cases c1 : x.f5 < 1000
        · rw [if_pos c1]; exact Ev.congr (fun k => if_pos c1) (Ev.now _)
        · rw [if_neg c1]
          refine Ev.congr (fun k => if_neg c1) ?_
          by_cases c2 : x.f5 > 9999
          · rw [if_pos c2]; exact Ev.congr (fun k => if_pos c2) (Ev.now _)
          · rw [if_neg c2]; exact Ev.congr (fun k => if_neg c2) h2
    have hj2t : Ev (fun k => wage_Valid.j2 k l l (l.length : Int) (pre.length : Int) true x.f0 x.f1 x.f2 x.f3 x.f4 x.f5) false := Ev.step (f := fun _ => some false) (fun k => by simp [wage_Valid.j2]) (Ev.now _)
    have hj1t : Ev (fun k => wage_Valid.j1 k l l (l.length : Int) (pre.length : Int) true x.f0 x.f1 x.f2 x.f3 x.f4 x.f5) false := Ev.step (f := fun _ => some false) (fun k => by simp [wage_Valid.j1]) (Ev.now _)
    have hj1 : Ev (fun k => wage_Valid.j1 k l l (l.length : Int) (pre.length : Int) false x.f0 x.f1 x.f2 x.f3 x.f4 x.f5) (!badW x && wv (some x.f0) suf) := by
      have e : (!badW x && wv (some x.f0) suf) = (if x.f1 = 1 then (if x.f5 < 1000 then false else if x.f5 > 9999 then false else wv (some x.f0) suf) else if x.f1 = 2 then (if x.f4 = true then false else if x.f5 < 1000 then false else if x.f5 > 9999 then false else wv (some x.f0) suf) else false) := by
        unfold badW
        by_cases k1 : x.f1 = 1
        · rw [if_pos k1, k1]
          by_cases a1 : x.f5 < 1000
          · rw [if_pos a1]; simp [a1]
          · rw [if_neg a1]
            by_cases a2 : x.f5 > 9999
            · rw [if_pos a2]; simp [a1, a2]
            · rw [if_neg a2]; simp [a1, a2]
        · rw [if_neg k1]
          by_cases k2 : x.f1 = 2
          · rw [if_pos k2, k2]
            cases x.f4 with
            | true => simp
            | false =>
              rw [if_neg (by simp)]
              by_cases a1 : x.f5 < 1000
              · rw [if_pos a1]; simp [a1]
              · rw [if_neg a1]
                by_cases a2 : x.f5 > 9999
                · rw [if_pos a2]; simp [a1, a2]
                · rw [if_neg a2]; simp [a1, a2]
          · rw [if_neg k2]; simp [k1, k2]
      rw [e]
      by_cases k1 : x.f1 = 1
      · rw [if_pos k1]
        refine Ev.step (fun k => ?_) hj2
        simp only [wage_Valid.j1]
        rw [if_neg (by simp), if_pos k1, if_neg (by omega)]
      · rw [if_neg k1]
        by_cases k2 : x.f1 = 2
        · rw [if_pos k2]
          refine Ev.step (f := fun k => wage_Valid.j2 k l l (l.length : Int) (pre.length : Int) x.f4 x.f0 x.f1 x.f2 x.f3 x.f4 x.f5) (fun k => ?_) ?_
          · simp only [wage_Valid.j1]
            rw [if_neg (by simp), if_neg k1, if_pos k2]
          · cases hx4 : x.f4 with
            | true => rw [if_pos rfl]; rw [hx4] at hj2t; exact hj2t
            | false => rw [if_neg (by simp)]; rw [hx4] at hj2; exact hj2
        · rw [if_neg k2]
          refine Ev.step (fun k => ?_) hj2t
          simp only [wage_Valid.j1]
          rw [if_neg (by simp), if_neg k1, if_neg k2]
    refine Ev.step (f := fun k => (token_IsName.f k x.f0).bind fun t => if t = true then wage_Valid.j1 k l l (l.length : Int) (pre.length : Int) (lateW (lastW pre) x.f0) x.f0 x.f1 x.f2 x.f3 x.f4 x.f5 else wage_Valid.j1 k l l (l.length : Int) (pre.length : Int) true x.f0 x.f1 x.f2 x.f3 x.f4 x.f5) (fun k => ?_) ?_
    · simp only [wage_Valid.l0]
      rw [if_pos (by omega), if_pos (by omega), if_pos (by omega), hrd]
      congr 1
      funext t
      by_cases ht : t = true
      · rw [if_pos ht, if_pos ht]
        rcases List.eq_nil_or_concat pre with h0 | ⟨init, q, h0⟩
        · subst h0
          rw [if_neg (by simp)]
          rfl
        · rw [List.concat_eq_append] at h0
          have hp : (pre.length : Int) = (init.length : Int) + 1 := by rw [h0]; simp
          have hrq : rd_T31 l ((pre.length : Int) - 1) = q := by
            have := rdW_mid init q (x :: suf)
            rw [h, h0, show (((init ++ [q]).length : Int) - 1) = (init.length : Int) by simp, List.append_assoc, List.singleton_append, this]
          rw [if_pos (by omega), wrapid (x := (pre.length : Int) - 1) (by omega) (by omega), if_pos (by omega), if_pos (by omega), hrq, h0, lastW_snoc]
          rfl
      · rw [if_neg ht, if_neg ht]
    · refine Ev.bind (name_ev x.f0) ?_
      unfold wv
      cases nameS x.f0 with
      | false => rw [Bool.false_and]; exact Ev.congr (fun k => if_neg (by simp)) hj1t
      | true =>
        rw [Bool.true_and]
        refine Ev.congr (fun k => if_pos rfl) ?_
        cases lateW (lastW pre) x.f0 with
        | true => rw [Bool.not_true, Bool.false_and]; exact hj1t
        | false => rw [Bool.not_false, Bool.true_and]; exact hj1
theorem valid_ev (l : List Wg) : Ev (fun k => wage_Valid.f k l) (validW l) := by
  unfold wage_Valid.f validW
  by_cases h : (l.length : Int) > 64
  · rw [decide_eq_false (by omega), Bool.false_and]; exact Ev.congr (fun k => if_pos h) (Ev.now _)
  · rw [decide_eq_true (by omega), Bool.true_and]; exact Ev.congr (fun k => if_neg h) (valid_loop l (by omega) l [] rfl)
end Go.Proofs.Ytbmcddmhfnnccaa.Lib26
