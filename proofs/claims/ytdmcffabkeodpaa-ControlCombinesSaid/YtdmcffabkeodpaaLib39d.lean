/- What the reference of control answers: the same as package control. -/
import Derived.Test.YtdmcffabkeodpaaLib39c
import Derived.Test.YtdmcffabkeodpaaQx8
import Derived.Test.YtdmcffabkeodpaaQx9
import Derived.Test.YtdmcffabkeodpaaQx11
import Derived.Test.YtdmcffabkeodpaaQx12
namespace Go.Proofs.Ytdmcffabkeodpaa.Lib39
open Go.RowKit Go.Proofs.Ytdmcffabkeodpaa.Q Go.Proofs.YtdmcffabkeodpaaW.PrintWords Go.Proofs.YtdmcffabkeodpaaW.PrintLast Go.Proofs.YtdmcffabkeodpaaW.PrintMore Go.Proofs.Ytdmcffabkeodpaa.DeckLib Go.Proofs.Ytdmcffabkeodpaa.ListKit Go.Proofs.Ytdmcffabkeodpaa.MapKit
theorem rvalid_eq (a b : Int) : payrollref39_Valid.f a b = some (payB ⟨a, b⟩) := by
  unfold payrollref39_Valid.f payB
  by_cases h1 : a ≥ 1
  · rw [if_pos h1]
    by_cases h2 : a ≤ 2147483647
    · rw [if_pos h2]
      by_cases h3 : b ≥ 1
      · rw [if_pos h3]; exact congrArg some (decide_eq_decide.2 ⟨fun h => ⟨h1, h2, h3, h⟩, fun h => h.2.2.2⟩)
      · rw [if_neg h3]; simp; omega
    · rw [if_neg h2]; simp; omega
  · rw [if_neg h1]; simp; omega
theorem rof_loop : ∀ (suf pre : List Pay) (k : Nat) (a b c : Int), pre.length + suf.length ≤ 4096 → suf.length < k → 0 ≤ b → b ≤ pre.length * 1000000000000 → 0 ≤ c → c ≤ pre.length * 2147483647 →
    payrollref39_Of.l0 k (pre ++ suf) (pre.length : Int) a b c = if suf.all payB = true then some (a, b + sumA suf, c + sumE suf, 0) else some (0, 0, 0, 2) := by
  intro suf
  induction suf with
  | nil =>
    intro pre k a b c _ hk _ _ _ _
    obtain ⟨k, rfl⟩ : ∃ m, k = m + 1 := ⟨k - 1, by simp at hk; omega⟩
    simp only [payrollref39_Of.l0]
    rw [if_neg (by simp)]
    simp [sumA, sumE]
  | cons x suf ih =>
    intro pre k a b c hl hk hb1 hb2 hc1 hc2
    obtain ⟨k, rfl⟩ : ∃ m, k = m + 1 := ⟨k - 1, by simp at hk; omega⟩
    have hlt : (pre.length : Int) < ((pre ++ x :: suf).length : Int) := by simp; omega
    simp only [List.length_cons] at hl hk
    simp only [payrollref39_Of.l0]
    rw [if_pos hlt, if_pos (Int.natCast_nonneg _), rd_mid, rvalid_eq, Option.bind_some]
    by_cases h1 : payB ⟨x.f0, x.f1⟩ = true
    · have hx : payB x = true := h1
      have h2 := hx
      simp only [payB, decide_eq_true_eq] at h2
      rw [if_pos h1, wrap_id (x := (pre.length : Int) + 1) (by omega) (by omega), wrap_id (x := b + x.f1) (by omega) (by omega), wrap_id (x := c + x.f0) (by omega) (by omega)]
      have := ih (pre ++ [x]) k a (b + x.f1) (c + x.f0) (by simp; omega) (by omega) (by omega) (by simp; omega) (by omega) (by simp; omega)
      rw [List.append_assoc, List.singleton_append, len_mid pre x suf] at this
      rw [this, List.all_cons, hx, Bool.true_and, sumA_cons, sumE_cons]
      by_cases hs : suf.all payB = true
      · rw [if_pos hs, if_pos hs]
        rw [Int.add_assoc, Int.add_assoc]
      · rw [if_neg hs, if_neg hs]
    · have hx : ¬ payB x = true := h1
      rw [if_neg h1, List.all_cons, if_neg (by simp [hx])]
theorem rof_eq (l : List Pay) (k : Nat) (hk : 4096 < k) : payrollref39_Of.f k l = some (ofSpec l) := by
  unfold payrollref39_Of.f ofSpec
  by_cases h : l.length > 4096
  · rw [if_pos (by omega), if_pos h]
  · rw [if_neg (by omega), if_neg h]
    have := rof_loop l [] k (l.length : Int) 0 0 (by simp; omega) (by omega) (by omega) (by simp) (by omega) (by simp)
    simp only [List.nil_append, List.length_nil] at this
    rw [show ((0 : Nat) : Int) = 0 from rfl] at this
    rw [this]
    by_cases hs : l.all payB = true
    · rw [if_pos hs, if_pos hs]; simp
    · rw [if_neg hs, if_neg hs]
theorem set_mid (a b : List Pay) (x y : Pay) : (a ++ x :: b).set a.length y = a ++ y :: b := by
  rw [List.set_append_right _ _ (Nat.le_refl _)]; simp
/-- The loop that makes room. -/
theorem shift_ok (l0 : List Pay) (i : Nat) (hi : i < l0.length) (hl : l0.length ≤ 1000) (a : List Pay) (n : Nat) : ∀ (b1 : List Pay), b1.length = n → ∀ (z : Pay) (b2 : List Pay) (k : Nat), a.length + b1.length + b2.length ≤ 1000 → n ≤ k →
    payrollref39_Combine.l2 (k + 1) l0 (a ++ b1 ++ z :: b2) (i : Int) (a.length : Int) ((a.length + b1.length : Nat) : Int) = payrollref39_Combine.l0 (k - n) l0 (a ++ l0[i] :: (b1 ++ b2)) ((i + 1 : Nat) : Int) := by
  have hrd : rd_T29 l0 (i : Int) = l0[i] := by simp [rd_T29, List.getD_eq_getElem?_getD, List.getElem?_eq_getElem hi]
  induction n with
  | zero =>
    intro b1 h1 z b2 k hk1 hk
    obtain rfl : b1 = [] := List.eq_nil_of_length_eq_zero h1
    simp only [payrollref39_Combine.l2]
    rw [if_neg (by simp), if_pos (by omega), if_pos (by omega), if_pos (by omega), if_pos (by simp; omega), hrd, wrap_id (by omega) (by omega)]
    simp only [List.append_nil, Int.toNat_natCast, List.nil_append, Nat.sub_zero]
    rw [set_mid]
    rfl
  | succ n ih =>
    intro b1 h1 z b2 k hk1 hk
    obtain ⟨c, y, rfl⟩ : ∃ c y, b1 = c ++ [y] := ⟨b1.dropLast, b1.getLast (by intro h; subst h; simp at h1), (List.dropLast_concat_getLast _).symm⟩
    have hc : c.length = n := by simpa using h1
    simp only [List.length_append, List.length_singleton] at hk1
    obtain ⟨k, rfl⟩ : ∃ j, k = j + 1 := ⟨k - 1, by omega⟩
    have e0 : wrap64 (((a.length + (c ++ [y]).length : Nat) : Int) - 1) = ((a.length + c.length : Nat) : Int) := by
      rw [wrap_id (by simp; omega) (by simp; omega)]; simp; omega
    have e1 : a ++ (c ++ [y]) ++ z :: b2 = (a ++ c) ++ y :: (z :: b2) := by simp
    have hrd2 : rd_T29 (a ++ (c ++ [y]) ++ z :: b2) ((a.length + c.length : Nat) : Int) = y := by
      rw [e1, show a.length + c.length = (a ++ c).length by simp]; exact rd_mid _ _ _
    have e2 : (a ++ (c ++ [y]) ++ z :: b2).set (((a.length + (c ++ [y]).length : Nat) : Int)).toNat y = a ++ c ++ y :: (y :: b2) := by
      rw [Int.toNat_natCast, show a ++ (c ++ [y]) ++ z :: b2 = (a ++ (c ++ [y])) ++ z :: b2 by simp, show a.length + (c ++ [y]).length = (a ++ (c ++ [y])).length by simp, set_mid]; simp
    rw [payrollref39_Combine.l2]
    simp only [e0, hrd2]
    rw [if_pos (by simp; omega), if_pos (by omega), if_pos (by simp; omega), if_pos (by omega), if_pos (by simp; omega), show (⟨y.f0, y.f1⟩ : Pay) = y from rfl, e2]
    have := ih c hc y (y :: b2) k (by simp; omega) (by omega)
    rw [this, show k + 1 - (n + 1) = k - n by omega]
    simp
/-- One payment combined by the reference: as the entry is laid. -/
theorem put_split (m : List (Int × Int)) (hm : Asc ltI m) (e v : Int) : ∃ a b, m = a ++ b ∧ (∀ q ∈ a, q.1 < e) ∧ ((∃ w b', b = (e, w) :: b' ∧ putL ltI e v m = a ++ (e, v) :: b' ∧ m.lookup e = some w) ∨ ((∀ q ∈ b, e < q.1) ∧ putL ltI e v m = a ++ (e, v) :: b ∧ m.lookup e = none)) := by
  induction m with
  | nil => exact ⟨[], [], rfl, by simp, .inr ⟨by simp, rfl, rfl⟩⟩
  | cons q r ih =>
    obtain ⟨x, w⟩ := q
    have hc := List.pairwise_cons.1 hm
    unfold putL
    by_cases h1 : ltI e x = true
    · rw [if_pos h1]
      have h1' : e < x := by simpa [ltI] using h1
      refine ⟨[], (x, w) :: r, rfl, by simp, .inr ⟨fun q hq => ?_, rfl, ?_⟩⟩
      · rcases List.mem_cons.1 hq with h | h
        · subst h; exact h1'
        · have := hc.1 q h; simp [ltI] at this; omega
      · rw [lookup_none]
        intro hmem
        obtain ⟨q, hq, he⟩ := List.mem_map.1 hmem
        rcases List.mem_cons.1 hq with h | h
        · subst h; simp at he; omega
        · have := hc.1 q h; simp [ltI] at this; omega
    · rw [if_neg h1]
      have h1' : ¬ e < x := by simpa [ltI] using h1
      by_cases h2 : e = x
      · rw [if_pos h2]
        subst h2
        exact ⟨[], (e, w) :: r, rfl, by simp, .inl ⟨w, r, rfl, rfl, by simp [List.lookup]⟩⟩
      · rw [if_neg h2]
        obtain ⟨a, b, rfl, ha, hcase⟩ := ih hc.2
        have hb : (e == x) = false := beq_eq_false_iff_ne.2 h2
        refine ⟨(x, w) :: a, b, rfl, fun q hq => ?_, ?_⟩
        · rcases List.mem_cons.1 hq with h | h
          · subst h; simp; omega
          · exact ha q h
        · rcases hcase with ⟨w', b', e1, e2, e3⟩ | ⟨e1, e2, e3⟩
          · exact .inl ⟨w', b', e1, by rw [e2]; rfl, by rw [List.lookup, hb]; exact e3⟩
          · exact .inr ⟨e1, by rw [e2]; rfl, by rw [List.lookup, hb]; exact e3⟩
theorem toPays_append (a b : List (Int × Int)) : toPays (a ++ b) = toPays a ++ toPays b := by simp [toPays]
/-- The search. -/
theorem find_ok (l0 : List Pay) (i : Nat) (hi : i < l0.length) (hl : l0.length ≤ 1000) (out : List Pay) (ho : out.length ≤ 1000) : ∀ (s p r : List Pay) (k : Nat), out = p ++ s ++ r → (∀ q ∈ s, q.f0 < (l0[i]).f0) → (∀ x r', r = x :: r' → ¬ x.f0 < (l0[i]).f0) → s.length ≤ k →
    payrollref39_Combine.l1 (k + 1) l0 out (i : Int) (p.length : Int) = payrollref39_Combine.j2 (k - s.length) l0 out (i : Int) ((p.length + s.length : Nat) : Int) := by
  have hrd : rd_T29 l0 (i : Int) = l0[i] := by simp [rd_T29, List.getD_eq_getElem?_getD, List.getElem?_eq_getElem hi]
  intro s
  induction s with
  | nil =>
    intro p r k he _ hr _
    simp only [payrollref39_Combine.l1]
    cases r with
    | nil => rw [if_neg (by rw [he]; simp)]; simp
    | cons x r' =>
      have h1 : rd_T29 out (p.length : Int) = x := by rw [he]; simp only [List.append_nil]; exact rd_mid _ _ _
      rw [if_pos (by rw [he]; simp; omega), if_pos (by omega), if_pos (by omega), if_pos (by omega), h1, hrd, if_neg (hr x r' rfl)]
      simp
  | cons y s ih =>
    intro p r k he hs hr hk
    rw [List.length_cons] at hk
    obtain ⟨k, rfl⟩ : ∃ j, k = j + 1 := ⟨k - 1, by omega⟩
    have h1 : rd_T29 out (p.length : Int) = y := by rw [he, List.append_assoc, List.cons_append]; exact rd_mid _ _ _
    have hlt : (p.length : Int) < (out.length : Int) := by rw [he]; simp; omega
    rw [payrollref39_Combine.l1]
    rw [if_pos hlt, if_pos (by omega), if_pos (by omega), if_pos (by omega), h1, hrd, if_pos (hs y List.mem_cons_self), wrap_id (by omega) (by omega)]
    have := ih (p ++ [y]) r k (by rw [he]; simp) (fun q hq => hs q (List.mem_cons_of_mem _ hq)) hr (by omega)
    rw [len_mid p y s] at this
    rw [this, List.length_cons, show k + 1 - (s.length + 1) = k - s.length by omega]
    congr 1
    simp; omega
theorem rcomb_step (l0 : List Pay) (hv : l0.all payB = true) (i : Nat) (hi : i < l0.length) (hl : l0.length ≤ 900) (m : List (Int × Int)) (hm : Asc ltI m) (hml : m.length ≤ 900) (k : Nat) (hk : 5000 ≤ k) (R : List Pay × Int)
    (h : ∀ j, k - 2500 ≤ j → payrollref39_Combine.l0 j l0 (toPays (paySum m l0[i])) ((i + 1 : Nat) : Int) = some R) : payrollref39_Combine.l0 (k + 1) l0 (toPays m) (i : Int) = some R := by
  obtain ⟨a, b, hab, ha, hcase⟩ := put_split m hm (l0[i]).f0 (wrap64 ((m.lookup (l0[i]).f0).getD 0 + (l0[i]).f1))
  have hrd : rd_T29 l0 (i : Int) = l0[i] := by simp [rd_T29, List.getD_eq_getElem?_getD, List.getElem?_eq_getElem hi]
  have hlen : m.length = a.length + b.length := by rw [hab]; simp
  have htl : ∀ x : List (Int × Int), (toPays x).length = x.length := fun x => by simp [toPays]
  have hpv : payB l0[i] = true := List.all_eq_true.1 hv _ (List.getElem_mem hi)
  simp only [payB, decide_eq_true_eq] at hpv
  simp only [payrollref39_Combine.l0]
  rw [if_pos (by omega)]
  obtain ⟨k, rfl⟩ : ∃ j, k = j + 1 := ⟨k - 1, by omega⟩
  have hf := find_ok l0 i hi (by omega) (toPays m) (by rw [htl]; omega) (toPays a) [] (toPays b) k (by rw [hab, toPays_append]; simp) (fun q hq => by
      obtain ⟨q', hq', rfl⟩ := List.mem_map.1 hq; exact ha q' hq') (fun x r' hx => ?_) (by rw [htl]; omega)
  · rw [show ((0 : Int)) = (([] : List Pay).length : Int) by simp, hf]
    obtain ⟨j, hj⟩ : ∃ j, k - (toPays a).length = j + 1 := ⟨k - (toPays a).length - 1, by rw [htl]; omega⟩
    have hjl : k = j + 1 + a.length := by rw [htl] at hj; omega
    rw [hj]
    simp only [payrollref39_Combine.j2, List.length_nil, Nat.zero_add, htl]
    obtain ⟨j, rfl⟩ : ∃ j', j = j' + 1 := ⟨j - 1, by omega⟩
    rcases hcase with ⟨w, b', rfl, hput, hlk⟩ | ⟨hb, hput, hlk⟩
    · have h1 : rd_T29 (toPays m) (a.length : Int) = ⟨(l0[i]).f0, w⟩ := by
        rw [hab, toPays_append, ← htl a]; exact rd_mid _ _ _
      rw [if_pos (by rw [hlen, List.length_cons] <;> omega), if_pos (by omega), if_pos (by omega), if_pos (by omega), h1, hrd]
      simp only [payrollref39_Combine.j3, beq_self_eq_true, if_true]
      rw [if_pos (by omega), if_pos (by rw [htl, hlen, List.length_cons] <;> omega), if_pos (by omega), if_pos (by omega), h1, hrd, wrap_id (x := (i : Int) + 1) (by omega) (by omega)]
      have hs : (toPays m).set ((a.length : Int)).toNat (⟨(l0[i]).f0, wrap64 (w + (l0[i]).f1)⟩ : Pay) = toPays (paySum m l0[i]) := by
        unfold paySum
        rw [hput, hlk, hab, toPays_append, toPays_append, Int.toNat_natCast, ← htl a]
        exact set_mid _ _ _ _
      rw [hs]
      exact h j (by omega)
    · have hset : ∀ kk : Nat, 3 ≤ kk → 2200 + 3 ≤ kk → payrollref39_Combine.j3 kk l0 (toPays m) (i : Int) (a.length : Int) false = payrollref39_Combine.l0 (kk - 2 - b.length) l0 (toPays (paySum m l0[i])) ((i + 1 : Nat) : Int) := by
        intro kk h3 h4
        obtain ⟨q, rfl⟩ : ∃ q, kk = q + 2 := ⟨kk - 2, by omega⟩
        simp only [payrollref39_Combine.j3]
        rw [if_neg (by simp), if_pos (by rw [htl]; omega), Option.bind_some]
        have e1 : toPays m ++ [(⟨0, 0⟩ : Pay)] = toPays a ++ toPays b ++ (⟨0, 0⟩ : Pay) :: [] := by rw [hab, toPays_append]
        have e2 : wrap64 (((toPays m ++ [(⟨0, 0⟩ : Pay)]).length : Int) - 1) = (((toPays a).length + (toPays b).length : Nat) : Int) := by
          rw [wrap_id (by simp [htl] <;> omega) (by simp [htl] <;> omega)]; simp [htl, hlen]
        rw [e2, e1, ← htl a]
        have := shift_ok l0 i hi (by omega) (toPays a) (toPays b).length (toPays b) rfl ⟨0, 0⟩ [] q (by simp [htl]; omega) (by rw [htl]; omega)
        rw [this, htl, List.append_nil, show q + 2 - 2 - b.length = q - b.length by omega]
        congr 1
        unfold paySum
        rw [hput, hlk, toPays_append]
        have hw : wrap64 (((none : Option Int).getD 0) + (l0[i]).f1) = (l0[i]).f1 := by simp; exact wrap_id (by omega) (by omega)
        rw [hw]
        rfl
      have key : payrollref39_Combine.j3 (j + 1) l0 (toPays m) (i : Int) (a.length : Int) false = some R := by
        rw [hset (j + 1) (by omega) (by omega)]
        exact h _ (by omega)
      by_cases c : (a.length : Int) < (m.length : Int)
      · rw [if_pos c, if_pos (by omega), if_pos (by omega), if_pos (by omega), hrd]
        cases b with
        | nil => simp at hlen; omega
        | cons q b' =>
          have h1 : rd_T29 (toPays m) (a.length : Int) = ⟨q.1, q.2⟩ := by
            rw [hab, toPays_append, ← htl a]; exact rd_mid _ _ _
          have hq := hb q List.mem_cons_self
          rw [h1, show (q.1 == (l0[i]).f0) = false from beq_eq_false_iff_ne.2 (by omega)]
          exact key
      · rw [if_neg c]; exact key
  · rcases hcase with ⟨w, b', rfl, _, _⟩ | ⟨hb, _, _⟩
    · simp [toPays] at hx; rw [← hx.1]; simp
    · cases b with
      | nil => simp [toPays] at hx
      | cons q b' =>
        simp [toPays] at hx
        rw [← hx.1]
        have := hb q List.mem_cons_self
        simp; omega
theorem rcomb_check : ∀ (suf pre : List Pay) (k : Nat), pre.length + suf.length ≤ 1000 → suf.length ≤ k → payrollref39_Combine.l3 (k + 1) (pre ++ suf) (pre.length : Int) = if suf.any (fun p => decide (p.f1 > 1000000000000)) = true then some ([], 4) else some (pre ++ suf, 0) := by
  intro suf
  induction suf with
  | nil => intro pre k _ _; simp only [payrollref39_Combine.l3]; rw [if_neg (by simp)]; simp
  | cons x suf ih =>
    intro pre k h1 h2
    rw [List.length_cons] at h1 h2
    obtain ⟨k, rfl⟩ : ∃ j, k = j + 1 := ⟨k - 1, by omega⟩
    rw [payrollref39_Combine.l3]
    rw [if_pos (by simp; omega), if_pos (by omega), rd_mid]
    by_cases c : x.f1 > 1000000000000
    · rw [if_pos c, if_pos (by simp [c])]
    · rw [if_neg c, wrap_id (by omega) (by omega)]
      have := ih (pre ++ [x]) k (by simp; omega) (by omega)
      rw [List.append_assoc, List.singleton_append, len_mid pre x suf] at this
      rw [this, List.any_cons, show decide (x.f1 > 1000000000000) = false from decide_eq_false c, Bool.false_or]
theorem rcomb_loop (l0 : List Pay) (hv : l0.all payB = true) (hl : l0.length ≤ 900) (d : Nat) : ∀ (i k : Nat), i + d = l0.length → 7000 + 3000 * d ≤ k →
    payrollref39_Combine.l0 k l0 (toPays (paySums (l0.take i))) (i : Int) = some (if (paySums l0).any (fun p => decide (p.2 > 1000000000000)) = true then ([], 4) else (toPays (paySums l0), 0)) := by
  have hpl : ∀ x, (paySums (l0.take x)).length ≤ 900 := fun x => Nat.le_trans (paySums_len _) (by rw [List.length_take]; omega)
  induction d with
  | zero =>
    intro i k hi hk
    obtain ⟨k, rfl⟩ : ∃ j, k = j + 2 := ⟨k - 2, by omega⟩
    rw [Nat.add_zero] at hi
    rw [payrollref39_Combine.l0]
    rw [if_neg (by omega), List.take_of_length_le (by omega)]
    have hpl' := hpl i
    rw [List.take_of_length_le (by omega)] at hpl'
    have := rcomb_check (toPays (paySums l0)) [] k (by simp [toPays]; omega) (by simp [toPays]; omega)
    simp only [List.nil_append, List.length_nil] at this
    rw [show ((0 : Int)) = ((0 : Nat) : Int) from rfl, this]
    have e : (toPays (paySums l0)).any (fun p => decide (p.f1 > 1000000000000)) = (paySums l0).any (fun p => decide (p.2 > 1000000000000)) := by simp [toPays, List.any_map, Function.comp_def]
    rw [e]
    by_cases c : (paySums l0).any (fun p => decide (p.2 > 1000000000000)) = true
    · rw [if_pos c, if_pos c]
    · rw [if_neg c, if_neg c]; rfl
  | succ d ih =>
    intro i k hi hk
    obtain ⟨k, rfl⟩ : ∃ j, k = j + 1 := ⟨k - 1, by omega⟩
    have hlt : i < l0.length := by omega
    have hk2 : 10000 + 3000 * d ≤ k + 1 := by rw [Nat.mul_succ] at hk; exact Nat.le_trans (by omega) hk
    clear hk
    have h5 : 5000 ≤ k := by omega
    have hb : ∀ j, k - 2500 ≤ j → 7000 + 3000 * d ≤ j := by intro j hj; omega
    obtain ⟨m, hm⟩ : ∃ m, m = paySums (l0.take i) := ⟨_, rfl⟩
    have hma : Asc ltI m := hm ▸ paySums_asc _
    have hml : m.length ≤ 900 := hm ▸ hpl i
    rw [← hm]
    have ih' : ∀ j, k - 2500 ≤ j → payrollref39_Combine.l0 j l0 (toPays (paySum m l0[i])) ((i + 1 : Nat) : Int) = some (if (paySums l0).any (fun p => decide (p.2 > 1000000000000)) = true then ([], 4) else (toPays (paySums l0), 0)) := by
      intro j hj
      have := ih (i + 1) j (by omega) (hb j hj)
      rwa [List.take_succ_eq_append_getElem hlt, paySums_snoc, ← hm] at this
    exact rcomb_step l0 hv i hlt hl m hma hml k h5 _ ih'
theorem rcomb_eq (l : List Pay) (hl : l.length ≤ 900) (k : Nat) (hk : 3000000 ≤ k) : payrollref39_Combine.f k l = some (combSpec l) := by
  unfold payrollref39_Combine.f combSpec
  rw [rof_eq l k (by omega), Option.bind_some]
  by_cases h : (ofSpec l).2.2.2 = 0
  · rw [if_pos h, if_pos h]
    have hv : l.all payB = true := by
      unfold ofSpec at h
      rw [if_neg (by omega)] at h
      by_cases c : l.all payB = true
      · exact c
      · rw [if_neg c] at h; simp at h
    have h0 := rcomb_loop l hv hl l.length 0 k (by omega) (by omega)
    have e : toPays (paySums (l.take 0)) = [] := rfl
    rw [e, show ((0 : Nat) : Int) = 0 from rfl] at h0
    rw [h0]
    by_cases c : (paySums l).any (fun p => decide (p.2 > 1000000000000)) = true
    · rw [if_pos c, if_pos c]
    · rw [if_neg c, if_neg c]; rfl
  · rw [if_neg h, if_neg h]
theorem chunks_fuel (n : Nat) (hn : 1 ≤ n) (f : Nat) : ∀ (g : Nat) (l : List Pay), l.length ≤ f → l.length ≤ g → chunks f n l = chunks g n l := by
  induction f with
  | zero =>
    intro g l h1 _
    cases g with
    | zero => rfl
    | succ g => simp only [chunks]; rw [if_pos (by omega)]
  | succ f ih =>
    intro g l h1 h2
    cases g with
    | zero => simp only [chunks]; rw [if_pos (by omega)]
    | succ g =>
      simp only [chunks]
      by_cases c : l.length = 0
      · rw [if_pos c, if_pos c]
      · rw [if_neg c, if_neg c, ih g (l.drop n) (by rw [List.length_drop]; omega) (by rw [List.length_drop]; omega)]
theorem rd2_last (o : List (List Pay)) (x : List Pay) : rd_L2 (o ++ [x]) (o.length : Int) = x := by
  simp [rd_L2, List.getD_eq_getElem?_getD]
theorem set2_last (o : List (List Pay)) (x y : List Pay) : (o ++ [x]).set o.length y = o ++ [y] := by
  rw [List.set_append_right _ _ (Nat.le_refl _)]; simp
theorem rsplit_loop (l0 : List Pay) (hl : l0.length ≤ 5000) (n : Int) (hn : 1 ≤ n) : ∀ (suf pre : List Pay) (o : List (List Pay)) (last : List Pay) (k : Nat), l0 = pre ++ suf → o.length ≤ pre.length → 1 ≤ last.length → (last.length : Int) ≤ n → last.length ≤ pre.length → suf.length ≤ k →
    payrollref39_Split.l0 (k + 1) l0 n (o ++ [last]) (pre.length : Int) = some (o ++ chunks (last ++ suf).length n.toNat (last ++ suf), 0) := by
  intro suf
  induction suf with
  | nil =>
    intro pre o last k he ho h1 h2 h3 hk
    simp only [payrollref39_Split.l0]
    rw [if_neg (by rw [he]; simp), List.append_nil]
    obtain ⟨f, hf⟩ : ∃ f, last.length = f + 1 := ⟨last.length - 1, by omega⟩
    rw [hf]
    simp only [chunks]
    rw [if_neg (by omega), List.take_of_length_le (by omega), List.drop_eq_nil_of_le (by omega)]
    cases f <;> simp [chunks]
  | cons p suf ih =>
    intro pre o last k he ho h1 h2 h3 hk
    rw [List.length_cons] at hk
    obtain ⟨k, rfl⟩ : ∃ j, k = j + 1 := ⟨k - 1, by omega⟩
    have hlen : l0.length = pre.length + suf.length + 1 := by rw [he]; simp; omega
    have hrd : rd_T29 l0 (pre.length : Int) = p := by rw [he]; exact rd_mid pre p suf
    have e0 : ((o ++ [last]).length : Int) = (o.length : Int) + 1 := by simp
    have ew : wrap64 ((o.length : Int) + 1 - 1) = (o.length : Int) := by rw [wrap_id (by omega) (by omega)]; omega
    rw [payrollref39_Split.l0]
    rw [if_pos (by omega), e0, ew, if_neg (by omega), if_pos (by omega), if_pos (by omega), rd2_last, hrd]
    have hpe : (⟨p.f0, p.f1⟩ : Pay) = p := rfl
    by_cases c : (last.length : Int) = n
    · rw [if_pos c, if_pos (by simp; omega), Option.bind_some]
      have e1 : ((o ++ [last] ++ [[]]).length : Int) = ((o ++ [last]).length : Int) + 1 := by simp; omega
      have e2 : ((o ++ [last]).length : Int) = (o.length : Int) + 1 := by simp
      have ew1 : wrap64 (((o ++ [last]).length : Int) + 1 - 1) = ((o ++ [last]).length : Int) := by rw [wrap_id (by omega) (by omega)]; omega
      rw [if_pos (by rw [e1]; omega), e1, ew1, if_pos (by omega), if_pos (by omega), rd2_last, if_pos (by simp), Int.toNat_natCast, set2_last, List.nil_append, hpe, wrap_id (x := (pre.length : Int) + 1) (by omega) (by omega)]
      have := ih (pre ++ [p]) (o ++ [last]) [p] k (by rw [he]; simp) (by simp; omega) (by simp) (by simp; omega) (by simp) (by omega)
      rw [len_mid pre p suf] at this
      rw [this]
      obtain ⟨f, hf⟩ : ∃ f, (last ++ p :: suf).length = f + 1 := ⟨(last ++ p :: suf).length - 1, by simp; omega⟩
      have hc : chunks (last ++ p :: suf).length n.toNat (last ++ p :: suf) = last :: chunks ([p] ++ suf).length n.toNat ([p] ++ suf) := by
        rw [hf]
        simp only [chunks]
        have hnn : n.toNat = last.length := by omega
        rw [if_neg (by simp), hnn, List.take_left, List.drop_left]
        congr 1
        exact chunks_fuel _ (by omega) _ _ _ (by simp at hf ⊢; omega) (Nat.le_refl _)
      rw [hc]; simp
    · rw [if_neg c, if_pos (by omega), if_pos (by omega), Int.toNat_natCast, set2_last, hpe, wrap_id (x := (pre.length : Int) + 1) (by omega) (by omega)]
      have := ih (pre ++ [p]) o (last ++ [p]) k (by rw [he]; simp) (by simp; omega) (by simp) (by simp; omega) (by simp; omega) (by omega)
      rw [len_mid pre p suf] at this
      rw [this]; simp
theorem rsplit_eq (l : List Pay) (n : Int) (k : Nat) (hk : 5000 < k) : payrollref39_Split.f k l n = some (if (ofSpec l).2.2.2 = 0 then (if n < 1 then ([], 2) else (chunks l.length n.toNat l, 0)) else ([], (ofSpec l).2.2.2)) := by
  unfold payrollref39_Split.f
  rw [rof_eq l k (by omega), Option.bind_some]
  by_cases h : (ofSpec l).2.2.2 = 0
  · rw [if_pos h, if_pos h]
    by_cases h2 : n < 1
    · rw [if_pos h2, if_pos h2]
    · rw [if_neg h2, if_neg h2]
      have hl : l.length ≤ 4096 := by
        unfold ofSpec at h
        by_cases c : l.length > 4096
        · rw [if_pos c] at h; simp at h
        · omega
      obtain ⟨k, rfl⟩ : ∃ j, k = j + 2 := ⟨k - 2, by omega⟩
      cases l with
      | nil => simp [payrollref39_Split.l0, chunks]
      | cons p suf =>
        rw [List.length_cons] at hl
        rw [payrollref39_Split.l0, if_pos (by simp <;> omega), if_pos (by simp), if_pos (by simp), Option.bind_some]
        have e1 : (([] : List (List Pay)) ++ [[]]).length = 1 := rfl
        have hw : wrap64 (((1 : Nat) : Int) - 1) = 0 := by rw [wrap_id (by omega) (by omega)]; rfl
        have hw2 : wrap64 ((0 : Int) + 1) = 1 := by rw [wrap_id (by omega) (by omega)]; rfl
        have hrd0 : rd_T29 (p :: suf) 0 = p := rfl
        have hrd1 : rd_L2 (([] : List (List Pay)) ++ [[]]) 0 = [] := rfl
        rw [e1, hw, if_pos (by omega), if_pos (by omega), if_pos (by omega), hrd1, if_pos (by simp), hrd0, hw2]
        have := rsplit_loop (p :: suf) (by simp <;> omega) n (by omega) suf [p] [] [p] k rfl (by simp) (by simp) (by simp <;> omega) (by simp) (by omega)
        exact this
  · rw [if_neg h, if_neg h]
theorem lists_loop : ∀ (suf pre : List (List Pay)) (k : Nat), pre.length + suf.length ≤ 100000 → (∀ c ∈ suf, c.length ≤ 100000) → suf.length + 100001 ≤ k → payrolllaw39_lists.l0 (k + 1) (pre ++ suf) (pre ++ suf) (pre.length : Int) = some true := by
  intro suf
  induction suf with
  | nil => intro pre k _ _ _; simp only [payrolllaw39_lists.l0]; rw [if_neg (by simp)]
  | cons c suf ih =>
    intro pre k h1 h2 h3
    rw [List.length_cons] at h1 h3
    obtain ⟨k, rfl⟩ : ∃ j, k = j + 1 := ⟨k - 1, by omega⟩
    have hrd : rd_L2 (pre ++ c :: suf) (pre.length : Int) = c := by simp [rd_L2, List.getD_eq_getElem?_getD]
    have hlt : (pre.length : Int) < ((pre ++ c :: suf).length : Int) := by simp; omega
    have hcl := h2 c List.mem_cons_self
    rw [payrolllaw39_lists.l0, if_pos hlt, if_pos (by omega), if_pos hlt, hrd, same_self c (k + 1) (by omega) (by omega), Option.bind_some, if_pos rfl, wrap_id (by omega) (by omega)]
    have := ih (pre ++ [c]) k (by simp; omega) (fun x hx => h2 x (List.mem_cons_of_mem _ hx)) (by omega)
    rw [List.append_assoc, List.singleton_append, show ((pre ++ [c]).length : Int) = (pre.length : Int) + 1 by simp] at this
    exact this
theorem lists_self (l : List (List Pay)) (h1 : l.length ≤ 100000) (h2 : ∀ c ∈ l, c.length ≤ 100000) (k : Nat) (hk : 300000 ≤ k) : payrolllaw39_lists.f k l l = some true := by
  unfold payrolllaw39_lists.f
  rw [if_pos rfl]
  obtain ⟨k, rfl⟩ : ∃ j, k = j + 1 := ⟨k - 1, by omega⟩
  have := lists_loop l [] k (by simpa using h1) h2 (by omega)
  exact this
end Go.Proofs.Ytdmcffabkeodpaa.Lib39
