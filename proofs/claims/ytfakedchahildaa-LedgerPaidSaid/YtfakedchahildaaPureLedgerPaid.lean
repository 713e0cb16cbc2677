/- The entries of payments are those of the reference, or its errors, and they are balanced: for drawn payments and for payments of any content. -/
import Derived.Test.YtfakedchahildaaLib44
import Derived.Test.YtfakedchahildaaLib39o
import Derived.Test.YtfakedchahildaaQx18
import Derived.Test.YtfakedchahildaaQx19
import Derived.Test.YtfakedchahildaaQx20
namespace Go.Proofs.Ytfakedchahildaa.Pure
open Go.RowKit Go.Proofs.Ytfakedchahildaa.Q Go.Proofs.YtfakedchahildaaW.PrintWords Go.Proofs.YtfakedchahildaaW.PrintLast Go.Proofs.Ytfakedchahildaa.DeckLib Go.Proofs.Ytfakedchahildaa.ListKit Go.Proofs.Ytfakedchahildaa.MapKit Go.Proofs.Ytfakedchahildaa.Lib39 Go.Proofs.Ytfakedchahildaa.Lib44
def paidSpec (n : Int) (l : List Pay) : List Bk × Int :=
  if 0 ≤ n ∧ n ≤ 256 then (if (ofSpec l).2.2.2 = 0 then (if (ofSpec l).2.1 > 1000000000000 then ([], 4) else if (ofSpec l).2.1 = 0 then ([], 0) else ([⟨n, 100, (ofSpec l).2.1⟩, ⟨n, 108, wrap64 (-(ofSpec l).2.1)⟩], 0)) else ([], (ofSpec l).2.2.2)) else ([], 2)
theorem of_ev (l : List Pay) : Ev (fun k => control_Of.f k l) (ofSpec l) := Ev.of (control_Of.mono l) (k := 4097) (of_eq l 4097 (by omega))
theorem rof_ev (l : List Pay) : Ev (fun k => payrollref39_Of.f k l) (ofSpec l) := Ev.of (payrollref39_Of.mono l) (k := 4097) (rof_eq l 4097 (by omega))
theorem paid_ev (n : Int) (l : List Pay) : Ev (fun k => ledger_Paid.f k n l) (paidSpec n l) := by
  have hbad : Ev (fun k => ledger_Paid.j0 k n l true) ([], 2) := Ev.step (f := fun _ => some ([], 2)) (fun k => by simp [ledger_Paid.j0]) (Ev.now _)
  unfold ledger_Paid.f paidSpec
  by_cases c1 : n < 0
  · rw [if_neg (by omega)]; exact Ev.congr (fun k => if_pos c1) hbad
  by_cases c2 : n > 256
  · rw [if_neg (by omega)]
    exact Ev.congr (fun k => (if_neg c1).trans (by rw [decide_eq_true c2])) hbad
  rw [if_pos (show 0 ≤ n ∧ n ≤ 256 by omega)]
  refine Ev.congr (fun k => (if_neg c1).trans (by rw [decide_eq_false c2])) ?_
  refine Ev.step (f := fun k => (control_Of.f k l).bind fun bt565 => (if bt565.2.2.2 = 0 then (if bt565.2.1 > 1000000000000 then (some (([] : List Bk), 4)) else (if bt565.2.1 = 0 then (some (([] : List Bk), 0)) else (some (([(⟨n, 100, bt565.2.1⟩ : Bk), (⟨n, 108, wrap64 (-bt565.2.1)⟩ : Bk)]), 0)))) else (some (([] : List Bk), bt565.2.2.2)))) (fun k => by simp [ledger_Paid.j0]) ?_
  refine Ev.bind (of_ev l) ?_
  repeat' split
  all_goals exact Ev.now _
theorem of_zero (l : List Pay) (h : (ofSpec l).2.2.2 = 0) : ((ofSpec l).1 = 0 ↔ (ofSpec l).2.1 = 0) ∧ 0 ≤ (ofSpec l).2.1 := by
  unfold ofSpec at h ⊢
  by_cases c1 : l.length > 4096
  · rw [if_pos c1] at h; simp at h
  · rw [if_neg c1] at h ⊢
    by_cases c2 : l.all payB = true
    · rw [if_pos c2]
      have := sums_bounds l c2
      simp only []
      omega
    · rw [if_neg c2] at h; simp at h
theorem rpaid_ev (n : Int) (l : List Pay) : Ev (fun k => payrollref44_Paid.f k n l) (paidSpec n l) := by
  have hbad : Ev (fun k => payrollref44_Paid.j0 k n l true) ([], 2) := Ev.step (f := fun _ => some ([], 2)) (fun k => by simp [payrollref44_Paid.j0]) (Ev.now _)
  unfold payrollref44_Paid.f paidSpec
  by_cases c1 : n < 0
  · rw [if_neg (by omega)]; exact Ev.congr (fun k => if_pos c1) hbad
  by_cases c2 : n > 256
  · rw [if_neg (by omega)]
    exact Ev.congr (fun k => (if_neg c1).trans (by rw [decide_eq_true c2])) hbad
  rw [if_pos (show 0 ≤ n ∧ n ≤ 256 by omega)]
  refine Ev.congr (fun k => (if_neg c1).trans (by rw [decide_eq_false c2])) ?_
  refine Ev.step (f := fun k => (payrollref39_Of.f k l).bind fun bt565 => (if bt565.2.2.2 = 0 then (if bt565.2.1 > 1000000000000 then (some (([] : List Bk), 4)) else (if bt565.1 = 0 then (some (([] : List Bk), 0)) else (some (([(⟨n, 100, bt565.2.1⟩ : Bk), (⟨n, 108, wrap64 (-bt565.2.1)⟩ : Bk)]), 0)))) else (some (([] : List Bk), bt565.2.2.2)))) (fun k => by simp [payrollref44_Paid.j0]) ?_
  refine Ev.bind (rof_ev l) ?_
  by_cases c3 : (ofSpec l).2.2.2 = 0
  · have hz := (of_zero l c3).1
    rw [if_pos c3, if_pos c3]
    by_cases c4 : (ofSpec l).2.1 > 1000000000000
    · rw [if_pos c4, if_pos c4]; exact Ev.now _
    · rw [if_neg c4, if_neg c4]
      by_cases c5 : (ofSpec l).2.1 = 0
      · rw [if_pos c5, if_pos (hz.2 c5)]; exact Ev.now _
      · rw [if_neg c5, if_neg (fun h => c5 (hz.1 h))]; exact Ev.now _
  · rw [if_neg c3, if_neg c3]; exact Ev.now _
theorem paid_len (n : Int) (l : List Pay) : (paidSpec n l).1.length ≤ 2 := by
  unfold paidSpec
  repeat' split
  all_goals simp
theorem sums_two (n s : Int) (h1 : 1 ≤ s) (h2 : s ≤ 1000000000000) : sumsB [⟨n, 100, s⟩, ⟨n, 108, -s⟩] = [(⟨n, 100⟩, s), (⟨n, 108⟩, -s)] := by
  have l1 : ltK (⟨n, 108⟩ : Pr Int Int) ⟨n, 100⟩ = false := by simp [ltK, ltP, ltI]
  have n1 : ¬ ((⟨n, 108⟩ : Pr Int Int) = ⟨n, 100⟩) := fun e => by injection e with _ e; omega
  have b1 : ((⟨n, 108⟩ : Pr Int Int) == ⟨n, 100⟩) = false := beq_eq_false_iff_ne.2 n1
  unfold sumsB addsG
  simp only [List.foldl_cons, List.foldl_nil, addG, keyB, amtB, List.lookup_nil, Option.getD_none, Int.zero_add, putL]
  rw [wrapid (x := s) (by omega) (by omega)]
  simp only [List.lookup_cons, b1, List.lookup_nil, Option.getD_none, Int.zero_add, l1, Bool.false_eq_true, if_false, if_neg n1]
  rw [wrapid (x := -s) (by omega) (by omega)]
theorem paid_bal (n : Int) (l : List Pay) : balB (paidSpec n l).1 = true := by
  have h0 : balB [] = true := by decide +kernel
  unfold paidSpec
  by_cases c0 : 0 ≤ n ∧ n ≤ 256
  case neg => rw [if_neg c0]; exact h0
  rw [if_pos c0]
  by_cases c3 : (ofSpec l).2.2.2 = 0
  case neg => rw [if_neg c3]; exact h0
  rw [if_pos c3]
  by_cases c4 : (ofSpec l).2.1 > 1000000000000
  case pos => rw [if_pos c4]; exact h0
  rw [if_neg c4]
  by_cases c5 : (ofSpec l).2.1 = 0
  case pos => rw [if_pos c5]; exact h0
  rw [if_neg c5]
  have hz := (of_zero l c3).2
  obtain ⟨s, hs⟩ : ∃ s, s = (ofSpec l).2.1 := ⟨_, rfl⟩
  rw [← hs] at c4 c5 hz ⊢
  show balB [⟨n, 100, s⟩, ⟨n, 108, wrap64 (-s)⟩] = true
  rw [wrapid (x := -s) (by omega) (by omega)]
  have hm : mergeB [⟨n, 100, s⟩, ⟨n, 108, -s⟩] = ([⟨n, 100, s⟩, ⟨n, 108, -s⟩], 0) := by
    have o1 : okB ⟨n, 100, s⟩ = true := (okB_iff _).2 ⟨⟨c0.1, c0.2, by show (100 : Int) ≤ 100; omega, by show (100 : Int) ≤ 9999; omega⟩, decide_eq_true (by show -1000000000000 ≤ s ∧ s ≤ 1000000000000; omega)⟩
    have o2 : okB ⟨n, 108, -s⟩ = true := (okB_iff _).2 ⟨⟨c0.1, c0.2, by show (100 : Int) ≤ 108; omega, by show (108 : Int) ≤ 9999; omega⟩, decide_eq_true (by show -1000000000000 ≤ -s ∧ -s ≤ 1000000000000; omega)⟩
    have t1 : tot s = true := decide_eq_true (by omega)
    have t2 : tot (-s) = true := decide_eq_true (by omega)
    unfold mergeB
    rw [if_neg (by simp), sums_two n s (by omega) (by omega)]
    simp only [List.all_cons, List.all_nil, o1, o2, t1, t2, Bool.and_self, if_true]
    unfold bookedL keepG
    have d1 : decide (s ≠ 0) = true := decide_eq_true c5
    have d2 : decide (-s ≠ 0) = true := decide_eq_true (by omega)
    simp only [List.filter_cons, List.filter_nil, d1, d2, if_true, List.map_cons, List.map_nil]
    rfl
  unfold balB
  rw [hm]
  simp only [if_true]
  rw [List.all_eq_true]
  intro p hp
  obtain ⟨_, e⟩ := mem_adds orderI hp
  refine decide_eq_true (e.trans ?_)
  have : sumG runB amtB [⟨n, 100, s⟩, ⟨n, 108, -s⟩] p.1 = 0 := by
    rw [sumG_cons, sumG_cons]
    show (if n = p.1 then s else 0) + ((if n = p.1 then -s else 0) + 0) = 0
    split <;> omega
  rw [this]
  exact wrapid (by omega) (by omega)
theorem LedgerPaid : ∀ (l : List Int) (run : Int) (raw : List Pay), ∃ k, payrolllaw44_LedgerPaid.f k l run raw = some true := by
  intro l run raw
  refine Ev.rounds (g := fun k => payrolllaw44_LedgerPaid.f k l run raw) ?_
  unfold payrolllaw44_LedgerPaid.f
  by_cases hr : (raw.length : Int) > 60
  · exact Ev.congr (fun k => if_pos hr) (Ev.bind awake_ev (Ev.now _))
  refine Ev.congr (fun k => if_neg hr) ?_
  unfold paygen_New.f
  simp only [Option.bind_some]
  obtain ⟨x, at2, hx, hl, hb, a1, a2⟩ := payments_ok l 0 6 1000 (by omega) (by omega) (by omega) (by omega) (by omega)
  refine Ev.bind (Ev.of (paygen_Deck_Payments.mono l 0 6) (k := 1000) hx) ?_
  obtain ⟨n, hn, _⟩ := pick_ok l at2 [0, 1, 256, 257, -1] a1 (by omega) (by simp) (by simp)
  simp only [hn, Option.bind_some]
  refine Ev.bind (paid_ev n x) (Ev.bind (rpaid_ev n x) (Ev.bind (paid_ev run raw) (Ev.bind (rpaid_ev run raw) ?_)))
  refine Ev.congr (fun k => if_pos rfl) (Ev.bind (same44_self _ (by have := paid_len n x; omega)) ?_)
  refine Ev.congr (fun k => (if_pos rfl).trans (if_pos rfl)) (Ev.bind (same44_self _ (by have := paid_len run raw; omega)) ?_)
  refine Ev.congr (fun k => if_pos rfl) (Ev.bind (bal_ev _) ?_)
  rw [paid_bal]
  exact Ev.congr (fun k => if_pos rfl) (Ev.bind awake_ev (Ev.now _))
end Go.Proofs.Ytfakedchahildaa.Pure
