/- Lines of payslips: package payslip and its reference answer the same. Plain Lean over the printed functions. -/
import Derived.Test.YtdlljjglmcpniaaLib17
import Derived.Test.YtdlljjglmcpniaaQx4
import Derived.Test.YtdlljjglmcpniaaQx9
import Derived.Test.YtdlljjglmcpniaaQx0
import Derived.Test.YtdlljjglmcpniaaQx1
namespace Go.Proofs.Ytdlljjglmcpniaa.Lib34
open Go.RowKit Go.Proofs.Ytdlljjglmcpniaa.Q Go.Proofs.YtdlljjglmcpniaaW.PrintWords Go.Proofs.YtdlljjglmcpniaaW.PrintLast Go.Proofs.Ytdlljjglmcpniaa.MapKit Go.Proofs.Ytdlljjglmcpniaa.ListKit Go.Proofs.Ytdlljjglmcpniaa.Lib17
abbrev Ln := S56
def codedB (a : Int) : Bool := !(decide (a = 6) || (decide (a = 9) || decide (a = 10)))
def formS (a : Int) (s : ByteArray) (n : Int) : Bool := decide (1 ≤ a ∧ a ≤ 10) && (tot n && (if codedB a = true then nameS s else decide (s.toList = ([] : List UInt8))))
def formL (x : Ln) : Bool := formS x.f0 x.f1 x.f2
theorem coded_eq (a : Int) : payslip_coded.f a = some (codedB a) := by
  unfold payslip_coded.f codedB
  by_cases h1 : a = 6
  · simp [h1]
  by_cases h2 : a = 9
  · simp [h2]
  by_cases h3 : a = 10 <;> simp [h1, h2, h3]
theorem bare_eq (a : Int) : payrollref32_Bare.f a = some (!codedB a) := by
  unfold payrollref32_Bare.f codedB
  by_cases h1 : a = 6
  · simp [h1]
  by_cases h2 : a = 9
  · simp [h2]
  by_cases h3 : a = 10 <;> simp [h1, h2, h3]
theorem form_ev (a : Int) (s : ByteArray) (n : Int) : Ev (fun k => payslip_form.f k a s n) (formS a s n) := by
  have hf : Ev (fun k => payslip_form.j0 k true a s n) false := Ev.step (f := fun _ => some false) (fun k => by simp [payslip_form.j0]) (Ev.now _)
  unfold payslip_form.f formS
  by_cases h1 : a < 1
  · rw [decide_eq_false (by omega), Bool.false_and]; exact Ev.congr (fun k => if_pos h1) hf
  by_cases h2 : a > 10
  · rw [decide_eq_false (by omega), Bool.false_and]; exact Ev.congr (fun k => (if_neg h1).trans (if_pos h2)) hf
  rw [decide_eq_true (by omega), Bool.true_and]
  refine Ev.congr (fun k => (if_neg h1).trans ((if_neg h2).trans (by rw [tot_eq, Option.bind_some]))) ?_
  cases tot n with
  | false => exact hf
  | true =>
    rw [Bool.true_and]
    refine Ev.step (f := fun k => if codedB a = true then (token_IsName.f k s).bind fun t => some t else some (s.toList == ([] : List UInt8))) (fun k => ?_) ?_
    · simp only [payslip_form.j0]
      rw [if_neg (by simp), coded_eq, Option.bind_some]
    · by_cases h : codedB a = true
      · rw [if_pos h]
        exact Ev.congr (fun k => if_pos h) (Ev.bind (name_ev s) (Ev.now _))
      · rw [if_neg h]
        refine Ev.congr (fun k => if_neg h) ?_
        rw [show (s.toList == ([] : List UInt8)) = decide (s.toList = ([] : List UInt8)) from (Bool.beq_eq_decide_eq _ _)]
        exact Ev.now _
theorem rform_ev (a : Int) (s : ByteArray) (n : Int) : Ev (fun k => payrollref32_Form.f k a s n) (formS a s n) := by
  have hf : Ev (fun k => payrollref32_Form.j0 k true a s n) false := Ev.step (f := fun _ => some false) (fun k => by simp [payrollref32_Form.j0]) (Ev.now _)
  unfold payrollref32_Form.f formS
  by_cases h1 : a < 1
  · rw [decide_eq_false (show ¬ (1 ≤ a ∧ a ≤ 10) by omega), Bool.false_and]; exact Ev.congr (fun k => if_pos h1) hf
  by_cases h2 : a > 10
  · rw [decide_eq_false (show ¬ (1 ≤ a ∧ a ≤ 10) by omega), Bool.false_and]; exact Ev.congr (fun k => (if_neg h1).trans (if_pos h2)) hf
  rw [decide_eq_true (show 1 ≤ a ∧ a ≤ 10 by omega), Bool.true_and]
  refine Ev.congr (fun k => (if_neg h1).trans (if_neg h2)) ?_
  unfold tot
  by_cases h3 : n < -1000000000000
  · rw [decide_eq_false (show ¬ (-1000000000000 ≤ n ∧ n ≤ 1000000000000) by omega), Bool.false_and]; exact Ev.congr (fun k => if_pos h3) hf
  refine Ev.congr (fun k => if_neg h3) ?_
  by_cases h4 : n > 1000000000000
  · rw [decide_eq_false (show ¬ (-1000000000000 ≤ n ∧ n ≤ 1000000000000) by omega), Bool.false_and, decide_eq_true h4]; exact hf
  rw [decide_eq_true (show -1000000000000 ≤ n ∧ n ≤ 1000000000000 by omega), Bool.true_and, decide_eq_false h4]
  refine Ev.step (f := fun k => if codedB a = true then (payrollref17_IsName.f k s).bind fun t => some t else some (s.toList == ([] : List UInt8))) (fun k => ?_) ?_
  · simp only [payrollref32_Form.j0]
    rw [if_neg (by simp), bare_eq, Option.bind_some]
    cases codedB a <;> simp
  · by_cases h : codedB a = true
    · rw [if_pos h]
      exact Ev.congr (fun k => if_pos h) (Ev.bind (rname_ev s) (Ev.now _))
    · rw [if_neg h]
      refine Ev.congr (fun k => if_neg h) ?_
      rw [show (s.toList == ([] : List UInt8)) = decide (s.toList = ([] : List UInt8)) from (Bool.beq_eq_decide_eq _ _)]
      exact Ev.now _
theorem formAll_ev : ∀ l : List Ln, Ev (fun k => formAll k l) (l.all formL)
  | [] => Ev.now _
  | x :: r => by
    unfold formAll
    rw [List.all_cons]
    refine Ev.bind (form_ev x.f0 x.f1 x.f2) ?_
    show Ev (fun k => if formL x = true then formAll k r else some false) _
    cases formL x with
    | true => rw [Bool.true_and]; exact Ev.congr (fun k => if_pos rfl) (formAll_ev r)
    | false => rw [Bool.false_and]; exact Ev.congr (fun k => if_neg (by simp)) (Ev.now _)
def sumsSpec (l : List Ln) : List (Pr Int Str × Int) × Int :=
  if (l.length : Int) > 65536 then ([], 3) else if l.all formL = true then (if (sumsL l).all (fun p => tot p.2) = true then (sumsL l, 0) else ([], 4)) else ([], 1)
theorem sums_ev (l : List Ln) : Ev (fun k => payslip_sums.f k l) (sumsSpec l) := by
  unfold payslip_sums.f sumsSpec
  by_cases h : (l.length : Int) > 65536
  · rw [if_pos h]; exact Ev.congr (fun k => if_pos h) (Ev.now _)
  rw [if_neg h]
  refine Ev.congr (fun k => if_neg h) (Ev.bind (formAll_ev l) ?_)
  by_cases h2 : l.all formL = true
  · rw [if_pos h2, if_pos h2]
    by_cases h3 : (sumsL l).all (fun p => tot p.2) = true
    · rw [if_pos h3, if_pos h3]; exact Ev.now _
    · rw [if_neg h3, if_neg h3]; exact Ev.now _
  · rw [if_neg h2, if_neg h2]; exact Ev.now _
def mergeSpec (l : List Ln) : List Ln × Int := if (sumsSpec l).2 = 0 then (linesL (sumsSpec l).1, 0) else ([], (sumsSpec l).2)
/-! ### the reference -/
def toLs (m : List (Pr Int Str × Int)) : List Ln := m.map toL
theorem less_eq (a : Int) (s : ByteArray) (n : Int) (b : Int) (t : ByteArray) (m : Int) : payrollref32_Less.f a s n b t m = some (ltK ⟨a, ⟨s⟩⟩ ⟨b, ⟨t⟩⟩) := by
  unfold payrollref32_Less.f ltK ltP ltI
  by_cases h : a < b
  · simp [h]
  · by_cases h2 : a = b
    · subst h2; simp [ltB]
    · simp [h, h2]
theorem rdL_mid (pre : List Ln) (x : Ln) (suf : List Ln) : rd_T56 (pre ++ x :: suf) (pre.length : Int) = x := by
  simp [rd_T56, List.getD_eq_getElem?_getD]
theorem lenL (pre : List Ln) (x : Ln) : ((pre ++ [x]).length : Int) = (pre.length : Int) + 1 := by simp
theorem toLs_append (a b : List (Pr Int Str × Int)) : toLs (a ++ b) = toLs a ++ toLs b := by simp [toLs]
theorem toLs_len (a : List (Pr Int Str × Int)) : (toLs a).length = a.length := by simp [toLs]
theorem put_skip (x : Ln) : ∀ (s pre b : List (Pr Int Str × Int)) (r : List Ln), (∀ q ∈ s, ltK q.1 (keyL x) = true) → (pre ++ s ++ b).length ≤ 1000000 →
    Ev (fun k => payrollref34_put.l0 k (toLs (pre ++ s ++ b)) (toLs (pre ++ s)) ((pre ++ s).length : Int) x.f0 x.f1 x.f2) r →
    Ev (fun k => payrollref34_put.l0 k (toLs (pre ++ s ++ b)) (toLs pre) (pre.length : Int) x.f0 x.f1 x.f2) r := by
  intro s
  induction s with
  | nil => intro pre b r _ _ h; simpa using h
  | cons q s ih =>
    intro pre b r hs hl h
    have hq := hs q List.mem_cons_self
    have h2 := ih (pre ++ [q]) b r (fun p hp => hs p (List.mem_cons_of_mem _ hp)) (by simpa using hl) (by simpa using h)
    refine Ev.step (fun k => ?_) h2
    simp only [payrollref34_put.l0]
    have hlen : (pre ++ q :: s ++ b).length = pre.length + (s.length + b.length) + 1 := by simp; omega
    have hrd : rd_T56 (toLs (pre ++ q :: s ++ b)) (pre.length : Int) = toL q := by
      have := rdL_mid (toLs pre) (toL q) (toLs (s ++ b))
      rw [toLs_len] at this
      rw [← this]
      congr 1
      simp [toLs]
    have hk : ltK ⟨(toL q).f0, ⟨(toL q).f1⟩⟩ ⟨x.f0, ⟨x.f1⟩⟩ = true := hq
    rw [if_pos (by rw [toLs_len]; omega), if_pos (by omega), hrd, less_eq, Option.bind_some, hk, if_pos rfl, if_pos (by rw [toLs_len]; omega), wrapid (x := (pre.length : Int) + 1) (by omega) (by omega)]
    rw [show pre ++ [q] ++ s ++ b = pre ++ q :: s ++ b by simp, lenI]
    congr 1
    simp [toLs]
where
  lenI {κ : Type} {pre : List κ} {q : κ} : ((pre ++ [q]).length : Int) = (pre.length : Int) + 1 := by simp
theorem rput_ev (m : List (Pr Int Str × Int)) (hm : Asc ltK m) (hl : m.length ≤ 900000) (x : Ln) (hx : -9223372036854775808 ≤ x.f2 ∧ x.f2 ≤ 9223372036854775807) : Ev (fun k => payrollref34_put.f k (toLs m) x.f0 x.f1 x.f2) (toLs (addG ltK keyL amtL m x)) := by
  unfold payrollref34_put.f
  obtain ⟨a, b, hab, ha, hc⟩ := put_split orderK m hm (keyL x) (wrap64 ((m.lookup (keyL x)).getD 0 + amtL x))
  have h0 := put_skip x a [] b (toLs (addG ltK keyL amtL m x)) ha (by rw [List.nil_append, ← hab]; omega)
  simp only [List.nil_append, List.length_nil] at h0
  rw [show ((0 : Nat) : Int) = 0 from rfl, ← hab] at h0
  refine h0 ?_
  clear h0
  unfold addG
  have hlen : m.length = a.length + b.length := by rw [hab]; simp
  have hdrop : ∀ n : Nat, n = a.length → (toLs m).drop n = toLs b := fun n hn => by rw [hab, toLs_append, hn, ← toLs_len a, List.drop_left]
  rcases hc with ⟨w, b', hb, hput, hlk⟩ | ⟨hb, hput, hlk⟩
  · -- the key is there
    rw [hput, hlk]
    subst hb
    have hrd : rd_T56 (toLs m) (a.length : Int) = toL (keyL x, w) := by
      have := rdL_mid (toLs a) (toL (keyL x, w)) (toLs b')
      rw [toLs_len] at this
      rw [← this, hab]
      congr 1
      simp [toLs]
    have hd : (toLs m).drop (a.length + 1) = toLs b' := by
      rw [hab, show a ++ (keyL x, w) :: b' = (a ++ [(keyL x, w)]) ++ b' by simp, toLs_append, show a.length + 1 = (toLs (a ++ [(keyL x, w)])).length by rw [toLs_len]; simp, List.drop_left]
    have hk : ltK ⟨(toL (keyL x, w)).f0, ⟨(toL (keyL x, w)).f1⟩⟩ ⟨x.f0, ⟨x.f1⟩⟩ = false := orderK.irrefl _
    simp only [List.length_cons] at hlen
    refine Ev.step (f := fun _ => some (toLs (a ++ (keyL x, wrap64 (w + x.f2)) :: b'))) (fun k => ?_) (Ev.now _)
    simp only [payrollref34_put.l0]
    rw [if_pos (by rw [toLs_len]; omega), if_pos (by omega), hrd, less_eq, Option.bind_some, hk, if_neg (by simp), if_pos (show (toL (keyL x, w)).f0 = x.f0 from rfl), if_pos (show (toL (keyL x, w)).f1.toList = x.f1.toList from rfl), if_pos (by rw [toLs_len]; omega), Option.bind_some]
    rw [wrapid (x := (a.length : Int) + 1) (by omega) (by omega), if_pos (by omega), if_pos (by rw [toLs_len]; omega), Option.bind_some, show ((a.length : Int) + 1).toNat = a.length + 1 by omega, hd, if_pos (by simp [toLs_len]; omega)]
    rw [Int.add_comm x.f2]
    simp [toLs, toL, keyL]
  · -- a new key
    rw [hput, hlk]
    rw [Option.getD_none, Int.zero_add, show amtL x = x.f2 from rfl, wrapid hx.1 hx.2]
    have hout : toLs a ++ [(⟨x.f0, x.f1, x.f2⟩ : Ln)] ++ toLs b = toLs (a ++ (keyL x, x.f2) :: b) := by simp [toLs, toL, keyL]
    refine Ev.step (f := fun _ => some (toLs (a ++ (keyL x, x.f2) :: b))) (fun k => ?_) (Ev.now _)
    simp only [payrollref34_put.l0]
    rcases b with _ | ⟨⟨y, w⟩, b'⟩
    · rw [if_neg (by rw [toLs_len]; simp at hlen; omega), if_pos (by rw [toLs_len]; omega), Option.bind_some, if_pos (by omega), if_pos (by rw [toLs_len]; omega), Option.bind_some, Int.toNat_natCast, hdrop _ rfl, if_pos (by simp [toLs_len]; omega), hout]
    · have hrd : rd_T56 (toLs m) (a.length : Int) = toL (y, w) := by
        have := rdL_mid (toLs a) (toL (y, w)) (toLs b')
        rw [toLs_len] at this
        rw [← this, hab]
        congr 1
        simp [toLs]
      have hy : ltK (keyL x) y = true := hb (y, w) List.mem_cons_self
      have hk : ltK ⟨(toL (y, w)).f0, ⟨(toL (y, w)).f1⟩⟩ ⟨x.f0, ⟨x.f1⟩⟩ = false := orderK.asym hy
      simp only [List.length_cons] at hlen
      rw [if_pos (by rw [toLs_len]; omega), if_pos (by omega), hrd, less_eq, Option.bind_some, hk, if_neg (by simp)]
      have hfin : ∀ e : Option (List Ln), e = (if (toLs a).length < 4398046511104 then ((some (toLs a ++ [(⟨x.f0, x.f1, x.f2⟩ : Ln)])).bind fun y635 => (if (a.length : Int) ≤ ((toLs m).length : Int) then ((some ((toLs m).drop ((a.length : Int)).toNat)).bind fun y638 => (if y635.length + y638.length < 4398046511104 then (some (y635 ++ y638)) else (none))) else (none))) else (none)) → e = some (toLs (a ++ (keyL x, x.f2) :: (y, w) :: b')) := by
        rintro e rfl
        rw [if_pos (by rw [toLs_len]; omega), Option.bind_some, if_pos (by rw [toLs_len]; omega), Option.bind_some, Int.toNat_natCast, hdrop _ rfl, if_pos (by simp [toLs_len]; omega), hout]
      by_cases h1 : (toL (y, w)).f0 = x.f0
      · rw [if_pos h1]
        by_cases h2 : (toL (y, w)).f1.toList = x.f1.toList
        · exfalso
          have : y = keyL x := Pr.inj h1 (Str.inj (toList_inj h2))
          rw [this, orderK.irrefl] at hy
          cases hy
        · rw [if_neg h2]
          exact hfin _ rfl
      · rw [if_neg h1]
        exact hfin _ rfl
theorem rtrim_loop (m : List (Pr Int Str × Int)) (hl : m.length ≤ 900000) : ∀ (suf pre : List (Pr Int Str × Int)), m = pre ++ suf →
    Ev (fun k => payrollref34_trim.l0 k (toLs m) (linesL pre) (pre.length : Int)) (if suf.all (fun p => tot p.2) = true then (linesL (pre ++ suf), true) else ([], false)) := by
  intro suf
  induction suf with
  | nil =>
    intro pre h
    refine Ev.step (f := fun _ => some (linesL pre, true)) (fun k => ?_) (by simpa using Ev.now _)
    simp only [payrollref34_trim.l0]
    rw [if_neg (by rw [toLs_len, h]; simp)]
  | cons q suf ih =>
    intro pre h
    have h2 := ih (pre ++ [q]) (by rw [h]; simp)
    have hlen : m.length = pre.length + suf.length + 1 := by rw [h]; simp; omega
    have hll : (linesL pre).length ≤ pre.length := keepG_len _ _
    have hrd : rd_T56 (toLs m) (pre.length : Int) = toL q := by
      have := rdL_mid (toLs pre) (toL q) (toLs suf)
      rw [toLs_len] at this
      rw [← this, h]
      congr 1
      simp [toLs]
    rw [List.all_cons]
    have hj : ∀ k, payrollref34_trim.l0 (k + 1) (toLs m) (linesL pre) (pre.length : Int) = payrollref34_trim.j1 k (toLs m) (linesL pre) (pre.length : Int) (!tot q.2) := fun k => by
      simp only [payrollref34_trim.l0]
      rw [if_pos (by rw [toLs_len]; omega), if_pos (by omega), hrd]
      unfold tot
      by_cases c : (toL q).f2 < -1000000000000
      · rw [if_pos c, decide_eq_false (show ¬ (-1000000000000 ≤ q.2 ∧ q.2 ≤ 1000000000000) from fun hh => by have : q.2 < -1000000000000 := c; omega)]; rfl
      · rw [if_neg c]
        congr 1
        have c' : ¬ q.2 < -1000000000000 := c
        show decide (q.2 > 1000000000000) = _
        rw [← decide_not]
        exact decide_eq_decide.2 (by omega)
    refine Ev.step hj ?_
    cases ht : tot q.2 with
    | false =>
      rw [Bool.false_and]
      exact Ev.step (f := fun _ => some ([], false)) (fun k => by simp [payrollref34_trim.j1]) (Ev.now _)
    | true =>
      rw [Bool.true_and]
      rw [show pre ++ q :: suf = pre ++ [q] ++ suf by simp]
      refine Ev.step (fun k => ?_) h2
      simp only [payrollref34_trim.j1]
      rw [if_neg (by simp), if_pos (by omega), if_pos (by rw [toLs_len]; omega), hrd, wrapid (x := (pre.length : Int) + 1) (by omega) (by omega)]
      have hs : linesL (pre ++ [q]) = linesL pre ++ (if q.2 = 0 then [] else [toL q]) := keepG_snoc _ _ _
      by_cases c : (toL q).f2 = 0
      · have c' : q.2 = 0 := c
        rw [if_pos c, hs, if_pos c', List.append_nil]
        simp
      · have c' : ¬ q.2 = 0 := c
        rw [if_neg c, if_pos (by omega), hs, if_neg c']
        simp
theorem rtrim_ev (m : List (Pr Int Str × Int)) (hl : m.length ≤ 900000) : Ev (fun k => payrollref34_trim.f k (toLs m)) (if m.all (fun p => tot p.2) = true then (linesL m, true) else ([], false)) := by
  have := rtrim_loop m hl m [] rfl
  simpa [payrollref34_trim.f, linesL, keepG] using this
theorem formL_true {x : Ln} (h : formL x = true) : 1 ≤ x.f0 ∧ x.f0 ≤ 10 ∧ -1000000000000 ≤ x.f2 ∧ x.f2 ≤ 1000000000000 := by
  unfold formL formS tot at h
  simp only [Bool.and_eq_true, decide_eq_true_eq] at h
  omega
theorem rmerge_loop (l : List Ln) (hl : l.length ≤ 65536) : ∀ (suf pre : List Ln), l = pre ++ suf →
    Ev (fun k => payrollref34_Merge.l0 k l (toLs (sumsL pre)) (pre.length : Int)) (if suf.all formL = true then (if (sumsL l).all (fun p => tot p.2) = true then (linesL (sumsL l), 0) else ([], 4)) else ([], 1)) := by
  intro suf
  induction suf with
  | nil =>
    intro pre h
    rw [List.append_nil] at h
    subst h
    refine Ev.step (f := fun k => (payrollref34_trim.f k (toLs (sumsL l))).bind fun bt => (if bt.2 = true then (some (bt.1, 0)) else (some (([] : List Ln), 4)))) (fun k => ?_) ?_
    · simp only [payrollref34_Merge.l0]
      rw [if_neg (by simp)]
    · refine Ev.bind (rtrim_ev (sumsL l) (by have := sumsL_len l; omega)) ?_
      simp only [List.all_nil, if_true]
      by_cases c : (sumsL l).all (fun p => tot p.2) = true
      · simp only [if_pos c, if_true]; exact Ev.now _
      · simp only [if_neg c]; exact Ev.now _
  | cons x suf ih =>
    intro pre h
    have h2 := ih (pre ++ [x]) (by rw [h]; simp)
    have hlen : l.length = pre.length + suf.length + 1 := by rw [h]; simp; omega
    have hrd : rd_T56 l (pre.length : Int) = x := by rw [h]; exact rdL_mid pre x suf
    refine Ev.step (f := fun k => (payrollref32_Form.f k x.f0 x.f1 x.f2).bind fun t => (if t = true then ((payrollref34_put.f k (toLs (sumsL pre)) x.f0 x.f1 x.f2).bind fun t679 => (payrollref34_Merge.l0 k l t679 ((pre ++ [x]).length : Int))) else (some (([] : List Ln), 1)))) (fun k => ?_) ?_
    · simp only [payrollref34_Merge.l0]
      rw [if_pos (by omega), if_pos (by omega), hrd, wrapid (x := (pre.length : Int) + 1) (by omega) (by omega), lenL]
    · refine Ev.bind (rform_ev x.f0 x.f1 x.f2) ?_
      rw [List.all_cons]
      cases hf : formL x with
      | false =>
        have hf' : formS x.f0 x.f1 x.f2 = false := hf
        rw [Bool.false_and]
        exact Ev.congr (fun k => if_neg (by rw [hf']; simp)) (Ev.now _)
      | true =>
        have hf' : formS x.f0 x.f1 x.f2 = true := hf
        have hb := formL_true hf
        rw [Bool.true_and]
        refine Ev.congr (fun k => if_pos hf') ?_
        refine Ev.bind (rput_ev (sumsL pre) (sumsL_asc pre) (by have := sumsL_len pre; omega) x (by omega)) ?_
        rw [show addG ltK keyL amtL (sumsL pre) x = sumsL (pre ++ [x]) from (addsG_snoc _ _ _).symm]
        exact h2
theorem rmerge_ev (l : List Ln) : Ev (fun k => payrollref34_Merge.f k l) (mergeSpec l) := by
  unfold payrollref34_Merge.f mergeSpec sumsSpec
  by_cases h : (l.length : Int) > 65536
  · rw [if_pos h]; exact Ev.congr (fun k => if_pos h) (Ev.now _)
  rw [if_neg h]
  refine Ev.congr (fun k => if_neg h) ?_
  have h2 := rmerge_loop l (by omega) l [] rfl
  rw [show toLs (sumsL []) = [] from rfl, show (([] : List Ln).length : Int) = 0 from rfl] at h2
  by_cases c : l.all formL = true
  · rw [if_pos c] at h2 ⊢
    by_cases c2 : (sumsL l).all (fun p => tot p.2) = true
    · rw [if_pos c2] at h2 ⊢; exact h2
    · rw [if_neg c2] at h2 ⊢; exact h2
  · rw [if_neg c] at h2 ⊢; exact h2
end Go.Proofs.Ytdlljjglmcpniaa.Lib34
