/- A book holds at most MaxBook postings; 65535 to 65537 of them are added, counted and netted. -/
import Derived.Test.YtelmnkmpkljboaaLibBook
import Derived.Test.YtelmnkmpkljboaaQx8
import Derived.Test.YtelmnkmpkljboaaQx3
namespace Go.Proofs.Ytelmnkmpkljboaa.Pure
open Go.RowKit Go.Proofs.Ytelmnkmpkljboaa.Q Go.Proofs.YtelmnkmpkljboaaW.PrintWords Go.Proofs.YtelmnkmpkljboaaW.PrintLast Go.Proofs.Ytelmnkmpkljboaa.DeckLib Go.Proofs.Ytelmnkmpkljboaa.Lib34 Go.Proofs.Ytelmnkmpkljboaa.Lib35
def pay1 : Ps := ⟨1, 1, 0, ⟨9, ⟨#[]⟩, 1⟩⟩
theorem pay1_valid : validP pay1 = true := by decide +kernel
theorem runs1 : ∀ (n : Nat) (prev : Option Int), okAfter prev 1 = true → runsUp prev (List.replicate n pay1) = true
  | 0, _, _ => rfl
  | n + 1, prev, h => by
    rw [List.replicate_succ, runsUp, show okAfter prev pay1.f0 = true from h, Bool.true_and]
    exact runs1 n _ rfl
theorem all1 (n : Nat) : (List.replicate n pay1).all validP = true := by
  rw [List.all_eq_true]
  intro y hy
  rw [(List.mem_replicate.1 hy).2]
  exact pay1_valid
theorem net1 : ∀ (n : Nat) (m : Int), 0 ≤ m → m + n ≤ 1000000 → netL 1 m (List.replicate n pay1) = m + n
  | 0, m, _, _ => by simp [netL]
  | n + 1, m, h, h2 => by
    rw [List.replicate_succ, netL, if_pos ⟨rfl, rfl⟩, show pay1.f3.f2 = 1 from rfl, wrap_id (by omega) (by omega), net1 n (m + 1) (by omega) (by omega)]
    omega
theorem book1 (n : Nat) : bookB (List.replicate n pay1) = decide (n ≤ 65536) := by
  unfold bookB
  rw [all1, runs1 n none rfl, List.length_replicate, Bool.and_self, Bool.and_true]
theorem limits_end (n : Nat) (h1 : 65535 ≤ n) (h2 : n ≤ 65537) : Ev (fun k => payrolllaw35_BookLimits.l0 k (n : Int) (List.replicate n pay1) (n : Int)) true := by
  obtain ⟨h, hh, hle, hle2⟩ : ∃ h : Nat, Int.tdiv (n : Int) 2 = (h : Int) ∧ h ≤ n ∧ h ≤ 40000 := by
    have e : Int.tdiv (n : Int) 2 = (n : Int) / 2 := Int.tdiv_eq_ediv_of_nonneg (by omega)
    exact ⟨((n : Int) / 2).toNat, by rw [e]; omega, by omega, by omega⟩
  obtain ⟨x, hx⟩ : ∃ x, x = List.replicate n pay1 := ⟨_, rfl⟩
  have hlen : x.length = n := by rw [hx]; simp
  have ht : x.take h = List.replicate h pay1 := by rw [hx, List.take_replicate, Nat.min_eq_left hle]
  have hd : x.drop h = List.replicate (n - h) pay1 := by rw [hx, List.drop_replicate]
  have hb : bookB x = decide (n ≤ 65536) := by rw [hx]; exact book1 n
  have hadd : addSpec (x.take h) (x.drop h) = if n > 65536 then ([], 18) else (x, 0) := by
    unfold addSpec
    rw [List.take_append_drop, ht, hd, book1, all1, if_pos (show decide (h ≤ 65536) = true from decide_eq_true (by omega)), if_pos rfl, List.length_replicate, List.length_replicate, show h + (n - h) = n by omega, hx, runs1 n none rfl, if_pos rfl]
  rw [← hx]
  refine Ev.step (f := fun k => ((book_Add.f k (x.take h) (x.drop h)).bind fun bt197 => ((book_Book.f k x).bind fun t201 => (if (t201 != (decide ((n : Int) ≤ 65536))) = true then (none) else (if (n : Int) > 65536 then (if bt197.2 = 18 then (if (bt197.1.length : Int) = 0 then ((book_Net.f k x 1).bind fun t202 => (if t202 = 0 then ((payrolllaw35_awake.f k).bind fun t203 => (some t203)) else (none))) else (none)) else (none)) else (if bt197.2 = 0 then (if (bt197.1.length : Int) = (n : Int) then ((book_Net.f k bt197.1 1).bind fun t204 => (if t204 = (n : Int) then ((payrolllaw35_awake.f k).bind fun t205 => (some t205)) else (none))) else (none)) else (none))))))) (fun k => ?_) ?_
  · simp only [payrolllaw35_BookLimits.l0]
    rw [if_neg (by omega), hh, wrap_id (x := (h : Int)) (by omega) (by omega), if_pos (by omega), if_pos (by omega), Int.toNat_natCast]
  · refine Ev.bind (add_ev _ _ (by rw [hd, List.length_replicate]; omega)) (Ev.bind (book_ev x) ?_)
    rw [hadd, hb]
    by_cases c : n > 65536
    · rw [if_pos c, decide_eq_false (show ¬ n ≤ 65536 by omega), decide_eq_false (show ¬ (n : Int) ≤ 65536 by omega)]
      have hn : netSpec x 1 = 0 := by unfold netSpec; rw [hb, decide_eq_false (by omega)]; rfl
      have := net_ev x 1
      rw [hn] at this
      exact Ev.congr (fun k => (if_neg (by decide)).trans ((if_pos (by omega)).trans ((if_pos rfl).trans (if_pos rfl)))) (Ev.bind this (Ev.congr (fun k => if_pos rfl) (Ev.bind awake_ev (Ev.now _))))
    · rw [if_neg c, decide_eq_true (show n ≤ 65536 by omega), decide_eq_true (show (n : Int) ≤ 65536 by omega)]
      have hn : netSpec x 1 = (n : Int) := by unfold netSpec; rw [hb, decide_eq_true (by omega), if_pos rfl, hx, net1 n 0 (by omega) (by omega)]; omega
      have := net_ev x 1
      rw [hn] at this
      exact Ev.congr (fun k => (if_neg (by decide)).trans ((if_neg (by omega)).trans ((if_pos rfl).trans (if_pos (by rw [hlen]))))) (Ev.bind this (Ev.congr (fun k => if_pos rfl) (Ev.bind awake_ev (Ev.now _))))
theorem limits_loop (n : Nat) (h1 : 65535 ≤ n) (h2 : n ≤ 65537) : ∀ (j i : Nat), i + j = n → Ev (fun k => payrolllaw35_BookLimits.l0 k (n : Int) (List.replicate i pay1 ++ List.replicate j z27) (i : Int)) true := by
  intro j
  induction j with
  | zero =>
    intro i h
    obtain rfl : i = n := by omega
    simpa using limits_end i h1 h2
  | succ j ih =>
    intro i h
    have e : (List.replicate i pay1 ++ List.replicate (j + 1) z27).set i pay1 = List.replicate (i + 1) pay1 ++ List.replicate j z27 := by
      rw [List.set_append_right _ _ (by simp), List.length_replicate, Nat.sub_self, List.replicate_succ, List.set_cons_zero, List.replicate_succ', List.append_assoc, List.singleton_append]
    have h3 := ih (i + 1) (by omega)
    rw [← e] at h3
    refine Ev.step (fun k => ?_) h3
    simp only [payrolllaw35_BookLimits.l0, payrolllaw35_pay.f, Option.bind_some]
    rw [if_pos (by omega), if_pos (by omega), if_pos (by simp; omega), wrap_id (x := (i : Int) + 1) (by omega) (by omega), Int.toNat_natCast]
    rfl
theorem BookLimits : payrolllaw35_BookLimits.Pure := by
  intro a b _ _
  refine Ev.rounds (g := fun k => payrolllaw35_BookLimits.f k a b) ?_
  unfold payrolllaw35_BookLimits.f paygen_Mod.f
  obtain ⟨r, hr, h1, h2⟩ := mod_ok a 3 (by omega) (by omega)
  rw [hr]; simp only [Option.bind_some]
  rw [wrap_id (by omega) (by omega)]
  obtain ⟨n, hn⟩ : ∃ n : Nat, (65535 + r) = (n : Int) := ⟨(65535 + r).toNat, by omega⟩
  rw [hn, Int.toNat_natCast]
  have := limits_loop n (by omega) (by omega) n 0 (by omega)
  exact Ev.congr (fun k => (if_pos (by omega)).trans (if_pos (by omega))) this
end Go.Proofs.Ytelmnkmpkljboaa.Pure
