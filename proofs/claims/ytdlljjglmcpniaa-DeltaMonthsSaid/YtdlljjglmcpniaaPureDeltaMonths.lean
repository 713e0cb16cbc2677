/- Paying period after period recovers a debt as the schedule says: for all drawn numbers. -/
import Derived.Test.YtdlljjglmcpniaaLib37b
import Derived.Test.YtdlljjglmcpniaaQx22
namespace Go.Proofs.Ytdlljjglmcpniaa.Pure
open Go.RowKit Go.Proofs.Ytdlljjglmcpniaa.Q Go.Proofs.YtdlljjglmcpniaaW.PrintWords Go.Proofs.YtdlljjglmcpniaaW.PrintLast Go.Proofs.YtdlljjglmcpniaaW.PrintMore Go.Proofs.Ytdlljjglmcpniaa.DeckLib Go.Proofs.Ytdlljjglmcpniaa.Lib37
theorem hold_range (left kp s x : Int) (h0 : 0 ≤ left) (hl : left ≤ 3000000) (h1 : 0 ≤ x) (h2 : x ≤ 1000000) (h3 : 0 ≤ s) (h4 : s ≤ 1000000) (h5 : 0 ≤ kp) (h6 : kp ≤ 600000) : 0 ≤ holdS left kp s x ∧ holdS left kp s x ≤ left := by
  have := prt_le x s (by omega) (by omega) (by omega) (by omega)
  unfold holdS
  rw [wrap_id (by omega) (by omega)]
  unfold mn mx
  constructor <;> (repeat' split) <;> omega
theorem months_loop (kp s : Int) (h3 : 0 ≤ s) (h4 : s ≤ 1000000) (h5 : 0 ≤ kp) (h6 : kp ≤ 600000) : ∀ (suf pre hpre : List Int) (left : Int) (m : Nat), 300 ≤ m → pre.length + suf.length ≤ 1000 → hpre.length = pre.length → (∀ x ∈ suf, 0 ≤ x ∧ x ≤ 1000000) → 0 ≤ left → left ≤ 3000000 →
    payrolllaw37_DeltaMonths.l0 (suf.length + 1 + m) (pre ++ suf) kp s (hpre ++ schedS kp s left suf) (-left) left (pre.length : Int) = some true := by
  intro suf
  induction suf with
  | nil =>
    intro pre hpre left m hm hl hh hb h0 h1
    rw [show ([] : List Int).length + 1 + m = m + 1 by simp; omega]
    simp only [payrolllaw37_DeltaMonths.l0]
    rw [if_neg (by simp), awake_ok m (by omega)]
    rfl
  | cons x suf ih =>
    intro pre hpre left m hm hl hh hb h0 h1
    rw [show (x :: suf).length + 1 + m = (suf.length + 1 + m) + 1 by simp; omega]
    simp only [payrolllaw37_DeltaMonths.l0]
    simp only [List.length_cons] at hl
    have hx := hb x List.mem_cons_self
    have hr := hold_range left kp s x h0 h1 hx.1 hx.2 h3 h4 h5 h6
    have hsl := schedS_len kp s (x :: suf) left
    obtain ⟨h, hhd⟩ : ∃ h, h = holdS left kp s x := ⟨_, rfl⟩
    have hrd2 : rd (hpre ++ schedS kp s left (x :: suf)) (pre.length : Int) = h := by
      rw [← hh, schedS, rdI_mid, hhd]
    rw [if_pos (by simp; omega), if_pos (by omega), rdI_mid, hrd2, recover_eq _ _ _ _ _ (by omega), Option.bind_some, if_pos (by rw [List.length_append, hsl, List.length_cons]; omega)]
    rw [wrap_id (x := -left + x) (by omega) (by omega)]
    have hrg : rangeR (-left + x) x kp s = true := by simp [rangeR, btw]; omega
    have hrec : recSpec (-left + x) x kp s = (x - h, -(left - h), 0) := by
      unfold recSpec
      rw [if_pos hrg]
      by_cases c : x ≤ -left + x
      · rw [if_pos c]
        obtain rfl : left = 0 := by omega
        obtain rfl : h = 0 := by omega
        simp
      · rw [if_neg c, wrap_id (x := x - (-left + x)) (by omega) (by omega), show x - (-left + x) = left by omega, ← hhd, wrap_id (x := x - h) (by omega) (by omega), wrap_id (by omega) (by omega)]
        rw [show -left + x - (x - h) = -(left - h) by omega]
    rw [hrec]
    simp only [if_true]
    rw [wrap_id (x := x - h) (by omega) (by omega), if_pos rfl, wrap_id (x := left - h) (by omega) (by omega), wrap_id (x := -(left - h)) (by omega) (by omega), if_pos rfl, if_neg (by omega), wrap_id (x := (pre.length : Int) + 1) (by omega) (by omega)]
    have := ih (pre ++ [x]) (hpre ++ [h]) (left - h) m hm (by simp; omega) (by simp [hh]) (fun y hy => hb y (List.mem_cons_of_mem _ hy)) (by omega) (by omega)
    rw [List.append_assoc, List.singleton_append, lenI_mid pre x, List.append_assoc, List.singleton_append] at this
    rw [schedS, ← hhd, wrap_id (x := left - h) (by omega) (by omega)]
    exact this
theorem DeltaMonths : payrolllaw37_DeltaMonths.Pure := by
  intro l _ _ _
  obtain ⟨K, hK⟩ : ∃ K : Nat, K = 5000 := ⟨_, rfl⟩
  refine ⟨K, ?_⟩
  unfold payrolllaw37_DeltaMonths.f paygen_New.f
  simp only [Option.bind_some]
  obtain ⟨x, t, hx, hxl, hxb, g1, g2⟩ := bases_ok l 5 (by omega) 0 K (by omega) (by omega) (by omega)
  rw [show ((5 : Nat) : Int) = 5 from rfl] at hx
  rw [hx]; simp only [Option.bind_some]
  obtain ⟨x1, t1, h1, p1, q1, e1⟩ := small_ok l t (by omega) (by omega)
  rw [h1]; simp only [Option.bind_some]
  obtain ⟨x2, t2, h2, p2, q2, e2⟩ := small_ok l t1 (by omega) (by omega)
  rw [h2]; simp only [Option.bind_some]
  obtain ⟨x3, t3, h3, p3, q3, e3⟩ := rate_ok l t2 (by omega) (by omega)
  rw [h3]; simp only [Option.bind_some]
  rw [wrap_id (x := 5 * x1) (by omega) (by omega), schedule_eq _ _ _ _ K (by omega), Option.bind_some]
  have hs : schedSpec (5 * x1) x x2 x3 = (schedS x2 x3 (5 * x1) x, 0) := by
    unfold schedSpec
    rw [if_neg (by omega), if_pos (by simp [btw]; omega), if_pos]
    rw [List.all_eq_true]
    intro y hy
    have := hxb y hy
    simp [netB, btw]; omega
  rw [hs]
  simp only [if_true]
  rw [schedS_len, if_pos rfl, wrap_id (x := -(5 * x1)) (by omega) (by omega)]
  obtain ⟨m, hm⟩ : ∃ m, K = x.length + 1 + m := ⟨K - x.length - 1, by omega⟩
  have := months_loop x2 x3 (by omega) (by omega) (by omega) (by omega) x [] [] (5 * x1) m (by omega) (by simp; omega) rfl hxb (by omega) (by omega)
  simp only [List.nil_append, List.length_nil] at this
  rw [show ((0 : Nat) : Int) = 0 from rfl] at this
  rw [hm]
  exact this
end Go.Proofs.Ytdlljjglmcpniaa.Pure
