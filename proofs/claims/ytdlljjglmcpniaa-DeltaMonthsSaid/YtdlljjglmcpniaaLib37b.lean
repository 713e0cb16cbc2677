/- What package delta and its reference answer on schedules: plain Lean over the printed functions. -/
import Derived.Test.YtdlljjglmcpniaaLib37
import Derived.Test.YtdlljjglmcpniaaQx18
import Derived.Test.YtdlljjglmcpniaaQx20
namespace Go.Proofs.Ytdlljjglmcpniaa.Lib37
open Go.RowKit Go.Proofs.Ytdlljjglmcpniaa.Q Go.Proofs.YtdlljjglmcpniaaW.PrintWords Go.Proofs.YtdlljjglmcpniaaW.PrintLast Go.Proofs.YtdlljjglmcpniaaW.PrintMore Go.Proofs.Ytdlljjglmcpniaa.DeckLib
theorem rdI_mid (pre : List Int) (x : Int) (suf : List Int) : rd (pre ++ x :: suf) (pre.length : Int) = x := by
  simp [rd, List.getD_eq_getElem?_getD]
theorem lenI_mid (pre : List Int) (x : Int) : ((pre ++ [x]).length : Int) = (pre.length : Int) + 1 := by simp
def netB (n : Int) : Bool := btw n 1000000000
theorem netB_true {n : Int} (h : netB n = true) : 0 ≤ n ∧ n ≤ 1000000000 := by simpa [netB, btw] using h
def schedS (keep share : Int) : Int → List Int → List Int
  | _, [] => []
  | debt, x :: r => holdS debt keep share x :: schedS keep share (wrap64 (debt - holdS debt keep share x)) r
theorem schedS_len (keep share : Int) : ∀ (l : List Int) (d : Int), (schedS keep share d l).length = l.length
  | [], _ => rfl
  | x :: r, d => by simp [schedS, schedS_len keep share r]
theorem sched_L (keep share : Int) (h2 : 0 ≤ share) (h3 : share ≤ 1000000) (k : Nat) (hk : 1 ≤ k) : ∀ (l : List Int) (d : Int), l.all netB = true → schedL k keep share d l = some (schedS keep share d l)
  | [], _, _ => rfl
  | x :: r, d, h => by
    rw [List.all_cons, Bool.and_eq_true] at h
    have hx := netB_true h.1
    unfold schedL schedS
    rw [hold_eq _ _ _ _ hx.1 hx.2 h2 h3 k hk, Option.bind_some, sched_L keep share h2 h3 k hk r _ h.2, Option.bind_some]
def schedSpec (a0 : Int) (l : List Int) (a2 a3 : Int) : List Int × Int :=
  if l.length > 1024 then ([], 3) else if (btw a0 1000000000000 && (btw a2 1000000000 && btw a3 1000000)) = true then (if l.all netB = true then (schedS a2 a3 a0 l, 0) else ([], 2)) else ([], 2)
theorem schedule_eq (a0 : Int) (l : List Int) (a2 a3 : Int) (k : Nat) (hk : 1 ≤ k) : delta_Schedule.f k a0 l a2 a3 = some (schedSpec a0 l a2 a3) := by
  unfold delta_Schedule.f schedSpec
  by_cases c : l.length > 1024
  · rw [if_pos (by omega), if_pos c]
  rw [if_neg (by omega), if_neg c]
  by_cases c2 : (btw a0 1000000000000 && (btw a2 1000000000 && btw a3 1000000)) = true
  · rw [if_pos c2, if_pos c2]
    by_cases c3 : l.all netB = true
    · have c3' : l.all (fun n => btw n 1000000000) = true := c3
      rw [if_pos c3, if_pos c3', sched_L _ _ (by simp [btw] at c2; omega) (by simp [btw] at c2; omega) k hk _ _ c3, Option.bind_some]
    · have c3' : ¬ l.all (fun n => btw n 1000000000) = true := c3
      rw [if_neg c3, if_neg c3']
  · rw [if_neg c2, if_neg c2]
theorem rsched_l0 (x0 x2 x3 : Int) (m : Nat) : ∀ (suf pre : List Int), pre.length + suf.length ≤ 1024 →
    payrollref37_Schedule.l0 (suf.length + 1 + m) x0 (pre ++ suf) x2 x3 (pre.length : Int) = if suf.all netB = true then payrollref37_Schedule.l1 m x0 (pre ++ suf) x2 x3 [] 0 else some ([], 2) := by
  intro suf
  induction suf with
  | nil =>
    intro pre _
    rw [show ([] : List Int).length + 1 + m = m + 1 by simp; omega]
    simp only [payrollref37_Schedule.l0]
    rw [if_neg (by simp)]
    simp
  | cons x suf ih =>
    intro pre hl
    rw [show (x :: suf).length + 1 + m = (suf.length + 1 + m) + 1 by simp; omega]
    simp only [payrollref37_Schedule.l0]
    simp only [List.length_cons] at hl
    rw [if_pos (by simp; omega), if_pos (by omega), rdI_mid, in_eq, Option.bind_some]
    by_cases hx : netB x = true
    · have hx' : btw x 1000000000 = true := hx
      rw [if_pos hx', wrap_id (by omega) (by omega)]
      have := ih (pre ++ [x]) (by simp; omega)
      rw [List.append_assoc, List.singleton_append, lenI_mid pre x] at this
      rw [this, List.all_cons, hx, Bool.true_and]
    · have hx' : ¬ btw x 1000000000 = true := hx
      rw [if_neg hx', List.all_cons, if_neg (by simp [hx])]
theorem rsched_l1 (x2 x3 : Int) (h2 : 0 ≤ x3) (h3 : x3 ≤ 1000000) (m : Nat) (hm : 4 ≤ m) : ∀ (suf pre out : List Int) (d : Int), pre.length + suf.length ≤ 1024 → out.length = pre.length → suf.all netB = true →
    payrollref37_Schedule.l1 (suf.length + 1 + m) d (pre ++ suf) x2 x3 out (pre.length : Int) = some (out ++ schedS x2 x3 d suf, 0) := by
  intro suf
  induction suf with
  | nil =>
    intro pre out d _ _ _
    rw [show ([] : List Int).length + 1 + m = m + 1 by simp; omega]
    simp only [payrollref37_Schedule.l1]
    rw [if_neg (by simp)]
    simp [schedS]
  | cons x suf ih =>
    intro pre out d hl ho ha
    rw [show (x :: suf).length + 1 + m = (suf.length + 1 + m) + 1 by simp; omega]
    simp only [payrollref37_Schedule.l1]
    simp only [List.length_cons] at hl
    rw [List.all_cons, Bool.and_eq_true] at ha
    have hx := netB_true ha.1
    rw [if_pos (by simp; omega), if_pos (by omega), rdI_mid, rhold_eq _ _ _ _ hx.1 hx.2 h2 h3 _ (by omega), Option.bind_some, if_pos (by omega), wrap_id (x := (pre.length : Int) + 1) (by omega) (by omega)]
    have := ih (pre ++ [x]) (out ++ [holdS d x2 x3 x]) (wrap64 (d - holdS d x2 x3 x)) (by simp; omega) (by simp [ho]) ha.2
    rw [List.append_assoc, List.singleton_append, lenI_mid pre x] at this
    rw [this]
    simp [schedS]
theorem rschedule_eq (a0 : Int) (l : List Int) (a2 a3 : Int) (k : Nat) (hk : 3000 ≤ k) : payrollref37_Schedule.f k a0 l a2 a3 = some (schedSpec a0 l a2 a3) := by
  unfold payrollref37_Schedule.f schedSpec
  by_cases c : l.length > 1024
  · rw [if_pos (by omega), if_pos c]
  rw [if_neg (by omega), if_neg c]
  obtain ⟨m, rfl⟩ : ∃ m, k = (l.length + 1 + (l.length + 1 + m)) + 1 := ⟨k - (l.length + 1 + (l.length + 1)) - 1, by omega⟩
  simp only [in_eq, Option.bind_some, payrollref37_Schedule.j0]
  have hl0 := rsched_l0 a0 a2 a3 (l.length + 1 + m) l [] (by simp; omega)
  simp only [List.nil_append, List.length_nil] at hl0
  rw [show ((0 : Nat) : Int) = 0 from rfl] at hl0
  rw [hl0]
  cases e1 : btw a0 1000000000000 with
  | false => simp
  | true =>
    cases e2 : btw a2 1000000000 with
    | false => simp
    | true =>
      cases e3 : btw a3 1000000 with
      | false => simp
      | true =>
        simp only [Bool.not_true, Bool.false_eq_true, if_false, if_true, Bool.and_self]
        by_cases c3 : l.all netB = true
        · rw [if_pos c3, if_pos c3]
          have hl1 := rsched_l1 a2 a3 (by simp [btw] at e3; omega) (by simp [btw] at e3; omega) m (by omega) l [] [] a0 (by simp; omega) rfl c3
          simp only [List.nil_append, List.length_nil] at hl1
          rw [show ((0 : Nat) : Int) = 0 from rfl] at hl1
          rw [hl1]
        · rw [if_neg c3, if_neg c3]
theorem ints_loop : ∀ (suf pre : List Int) (k : Nat), pre.length + suf.length ≤ 1000000 → suf.length < k → payrolllaw37_ints.l0 k (pre ++ suf) (pre ++ suf) (pre.length : Int) = some true := by
  intro suf
  induction suf with
  | nil =>
    intro pre k _ hk
    obtain ⟨k, rfl⟩ : ∃ m, k = m + 1 := ⟨k - 1, by simp at hk; omega⟩
    simp only [payrolllaw37_ints.l0]
    rw [if_neg (by simp)]
  | cons x suf ih =>
    intro pre k hl hk
    obtain ⟨k, rfl⟩ : ∃ m, k = m + 1 := ⟨k - 1, by simp at hk; omega⟩
    have hlt : (pre.length : Int) < ((pre ++ x :: suf).length : Int) := by simp; omega
    simp only [List.length_cons] at hl hk
    simp only [payrolllaw37_ints.l0]
    rw [if_pos hlt, if_pos (Int.natCast_nonneg _), if_pos hlt, if_pos trivial, wrap_id (by omega) (by omega)]
    have := ih (pre ++ [x]) k (by simp; omega) (by omega)
    rwa [List.append_assoc, List.singleton_append, lenI_mid pre x] at this
theorem ints_self (l : List Int) (k : Nat) (hl : l.length ≤ 1000000) (hk : l.length < k) : payrolllaw37_ints.f k l l = some true := by
  unfold payrolllaw37_ints.f
  rw [if_pos rfl]
  exact ints_loop l [] k (by simpa using hl) hk
theorem bases_loop (l : List Int) (n : Nat) (hn : n ≤ 100) : ∀ (j : Nat) (out : List Int) (at_ : Int) (k : Nat), j + out.length = n → 0 ≤ at_ → at_ + 5 * j ≤ 1000000 → j < k → (∀ x ∈ out, 0 ≤ x ∧ x ≤ 1000000) →
    ∃ r at2, paygen_Deck_Bases.l0 k (n : Int) out (out.length : Int) l at_ = some (r, at2) ∧ r.length = n ∧ (∀ x ∈ r, 0 ≤ x ∧ x ≤ 1000000) ∧ at_ ≤ at2 ∧ at2 ≤ at_ + 5 * j := by
  intro j
  induction j with
  | zero =>
    intro out at_ k h1 h2 h3 h4 h5
    obtain ⟨k, rfl⟩ : ∃ m, k = m + 1 := ⟨k - 1, by omega⟩
    simp only [paygen_Deck_Bases.l0]
    rw [if_neg (by omega)]
    exact ⟨_, _, rfl, by omega, h5, by omega, by omega⟩
  | succ j ih =>
    intro out at_ k h1 h2 h3 h4 h5
    obtain ⟨k, rfl⟩ : ∃ m, k = m + 1 := ⟨k - 1, by omega⟩
    simp only [paygen_Deck_Bases.l0]
    rw [if_pos (by omega)]
    obtain ⟨x1, t1, e1, p1, q1, g1⟩ := small_ok l at_ h2 (by omega)
    rw [e1]; simp only [Option.bind_some]
    obtain ⟨x2, t2, e2, p2, q2, g2⟩ := small_ok l t1 (by omega) (by omega)
    rw [e2]; simp only [Option.bind_some]
    obtain ⟨x3, e3, m3⟩ := pick_ok l t2 [x1, x2, 0, 500000, 1000000] (by omega) (by omega) (by simp) (by simp)
    rw [e3]; simp only [Option.bind_some]
    rw [if_pos (by omega), wrap_id (by omega) (by omega)]
    have hx3 : 0 ≤ x3 ∧ x3 ≤ 1000000 := by simp at m3; omega
    obtain ⟨r, at2, hr, hl, hb, ha, hc⟩ := ih (out ++ [x3]) (t2 + 1) k (by simp; omega) (by omega) (by omega) (by omega) (fun x hx => by
      rcases List.mem_append.1 hx with h | h
      · exact h5 x h
      · rw [List.mem_singleton] at h; subst h; exact hx3)
    rw [lenI_mid] at hr
    exact ⟨r, at2, hr, hl, hb, by omega, by omega⟩
theorem bases_ok (l : List Int) (n : Nat) (hn : n ≤ 100) (at_ : Int) (k : Nat) (h0 : 0 ≤ at_) (h1 : at_ ≤ 100000) (hk : 101 ≤ k) : ∃ r at2, paygen_Deck_Bases.f k l at_ (n : Int) = some (r, at2) ∧ r.length = n ∧ (∀ x ∈ r, 0 ≤ x ∧ x ≤ 1000000) ∧ at_ ≤ at2 ∧ at2 ≤ at_ + 500 := by
  obtain ⟨r, at2, hr, hl, hb, ha, hc⟩ := bases_loop l n hn n [] at_ k (by simp) h0 (by omega) (by omega) (by simp)
  exact ⟨r, at2, hr, hl, hb, ha, by omega⟩
end Go.Proofs.Ytdlljjglmcpniaa.Lib37
