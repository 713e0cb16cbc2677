/- What the draws of books answer: plain Lean over the printed functions. -/
import Derived.Test.YtfakedchahildaaDeckLinesF
import Derived.Test.YtfakedchahildaaLib35f
import Derived.Test.YtfakedchahildaaQx10
namespace Go.Proofs.Ytfakedchahildaa.DeckLib
open Go.RowKit Go.Proofs.Ytfakedchahildaa.Q Go.Proofs.YtfakedchahildaaW.PrintWords Go.Proofs.YtfakedchahildaaW.PrintLast Go.Proofs.Ytfakedchahildaa.MapKit Go.Proofs.Ytfakedchahildaa.ListKit Go.Proofs.Ytfakedchahildaa.Lib17 Go.Proofs.Ytfakedchahildaa.Lib34 Go.Proofs.Ytfakedchahildaa.Lib35
/-- A posting as a deck draws it. -/
def Drawn1 (p : Ps) : Prop := validP p = true ∧ 1 ≤ p.f0 ∧ p.f0 ≤ 100 ∧ 1 ≤ p.f1 ∧ p.f1 ≤ 3 ∧ 0 ≤ p.f2 ∧ p.f2 ≤ 2 ∧ -600000 ≤ p.f3.f2 ∧ p.f3.f2 ≤ 600000 ∧ (p.f3.f0 = 1 → inCodes p.f3.f1 = true)
structure DBook (b : List Ps) (run : Int) : Prop where
  each : ∀ p ∈ b, Drawn1 p
  up : runsUp none b = true
  le : ∀ p ∈ b, p.f0 ≤ run
theorem runsUp_snoc : ∀ (b : List Ps) (prev : Option Int) (p : Ps), runsUp prev b = true → (∀ q ∈ b, q.f0 ≤ p.f0) → okAfter prev p.f0 = true → runsUp prev (b ++ [p]) = true
  | [], prev, p, _, _, h => by simp [runsUp, h]
  | q :: r, prev, p, h, hle, h2 => by
    simp only [runsUp, Bool.and_eq_true] at h
    simp only [List.cons_append, runsUp, Bool.and_eq_true]
    refine ⟨h.1, runsUp_snoc r (some q.f0) p h.2 (fun x hx => hle x (List.mem_cons_of_mem _ hx)) ?_⟩
    exact decide_eq_true (hle q List.mem_cons_self)
theorem DBook.snoc {b : List Ps} {run : Int} (h : DBook b run) (p : Ps) (hp : Drawn1 p) (hr : p.f0 = run) : DBook (b ++ [p]) run := by
  refine ⟨fun q hq => ?_, runsUp_snoc b none p h.up (fun q hq => by rw [hr]; exact h.le q hq) rfl, fun q hq => ?_⟩
  · rcases List.mem_append.1 hq with hq | hq
    · exact h.each q hq
    · rw [List.mem_singleton] at hq; subst hq; exact hp
  · rcases List.mem_append.1 hq with hq | hq
    · exact h.le q hq
    · rw [List.mem_singleton] at hq; subst hq; omega
theorem DBook.book {b : List Ps} {run : Int} (h : DBook b run) (hl : b.length ≤ 65536) : bookB b = true := by
  unfold bookB
  rw [decide_eq_true hl, h.up]
  have : b.all validP = true := List.all_eq_true.2 fun p hp => (h.each p hp).1
  rw [this]; rfl
theorem book_l1 (l : List Int) (run x7 : Int) (hr0 : 1 ≤ run) (hr1 : run ≤ 100) : ∀ (j : Nat) (b : List Ps) (at_ : Int), DBook b run → b.length + j ≤ 10000 → 0 ≤ at_ → at_ + 10 * j ≤ 1000000 →
    ∃ b2 at2, DBook b2 run ∧ b2.length = b.length + j ∧ at_ ≤ at2 ∧ at2 ≤ at_ + 10 * j ∧ ∀ r, Ev (fun k => paygen_Deck_Book.l0 k b2 run (wrap64 (x7 - 1)) l at2) r → Ev (fun k => paygen_Deck_Book.l1 k b run x7 (j : Int) l at_) r := by
  intro j
  induction j with
  | zero =>
    intro b at_ hb hl h0 h1
    refine ⟨b, at_, hb, rfl, by omega, by omega, fun r hr => Ev.step (fun k => ?_) hr⟩
    simp only [paygen_Deck_Book.l1]
    rw [if_neg (by omega)]
  | succ j ih =>
    intro b at_ hb hl h0 h1
    obtain ⟨x, hx, x0, x1⟩ := next_ok l at_ 3 h0 (by omega) (by omega) (by omega)
    obtain ⟨y, hy, y0, y1⟩ := next_ok l (at_ + 1) 3 (by omega) (by omega) (by omega) (by omega)
    obtain ⟨a, s, n, at2, hn, hf, hcode, hne, n0, n1, g0, g1⟩ := line_ok l (at_ + 1 + 1) (by omega) (by omega)
    have hp : Drawn1 ⟨run, 1 + x, y, ⟨a, s, n⟩⟩ := by
      refine ⟨?_, hr0, hr1, by show 1 ≤ 1 + x; omega, by show 1 + x ≤ 3; omega, y0, by show y ≤ 2; omega, n0, n1, fun h => hcode (by have h' : a = 1 := h; rw [h']; rfl)⟩
      unfold validP
      rw [show formL (⟨a, s, n⟩ : Ln) = true from hf]
      rw [decide_eq_true (show 1 ≤ run ∧ run ≤ 256 ∧ 1 ≤ 1 + x ∧ 1 + x ≤ 2147483647 ∧ 0 ≤ y ∧ y ≤ 84005 by omega), decide_eq_true hne]
      rfl
    obtain ⟨b2, at3, k1, k2, k3, k4, k5⟩ := ih (b ++ [⟨run, 1 + x, y, ⟨a, s, n⟩⟩]) at2 (hb.snoc _ hp rfl) (by simp; omega) (by omega) (by omega)
    refine ⟨b2, at3, k1, by rw [k2]; simp; omega, by omega, by omega, fun r hr => Ev.step (fun k => ?_) (k5 r hr)⟩
    simp only [paygen_Deck_Book.l1]
    rw [if_pos (by omega), hx, Option.bind_some, hy, Option.bind_some, hn, Option.bind_some, if_pos (by omega), wrap_id (x := 1 + x) (by omega) (by omega), wrap_id (x := ((j + 1 : Nat) : Int) - 1) (by omega) (by omega), show ((j + 1 : Nat) : Int) - 1 = (j : Int) by omega]
theorem book_l0 (l : List Int) : ∀ (j : Nat) (b : List Ps) (run at_ : Int), DBook b run → 0 ≤ run → run + 2 * j ≤ 100 → b.length + 4 * j ≤ 1000 → 0 ≤ at_ → at_ + 50 * j ≤ 1000000 →
    ∃ b2 run2 at2, Ev (fun k => paygen_Deck_Book.l0 k b run (j : Int) l at_) (b2, at2) ∧ DBook b2 run2 ∧ run2 ≤ run + 2 * j ∧ b2.length ≤ b.length + 4 * j ∧ at_ ≤ at2 ∧ at2 ≤ at_ + 50 * j := by
  intro j
  induction j with
  | zero =>
    intro b run at_ hb hr0 hr hl h0 h1
    refine ⟨b, run, at_, Ev.step (f := fun _ => some (b, at_)) (fun k => ?_) (Ev.now _), hb, by omega, by omega, by omega, by omega⟩
    simp only [paygen_Deck_Book.l0]
    rw [if_neg (by omega)]
  | succ j ih =>
    intro b run at_ hb hr0 hr hl h0 h1
    obtain ⟨x, hx, x0, x1⟩ := next_ok l at_ 2 h0 (by omega) (by omega) (by omega)
    obtain ⟨y, hy, y0, y1⟩ := next_ok l (at_ + 1) 5 (by omega) (by omega) (by omega) (by omega)
    obtain ⟨y, rfl⟩ := Int.eq_ofNat_of_zero_le y0
    have hb' : DBook b (run + (1 + x)) := ⟨hb.each, hb.up, fun p hp => by have := hb.le p hp; omega⟩
    obtain ⟨b2, at2, k1, k2, k3, k4, k5⟩ := book_l1 l (run + (1 + x)) ((j + 1 : Nat) : Int) (by omega) (by omega) y b (at_ + 1 + 1) hb' (by omega) (by omega) (by omega)
    obtain ⟨b3, run3, at3, m1, m2, m3, m4, m5, m6⟩ := ih b2 (run + (1 + x)) at2 k1 (by omega) (by omega) (by omega) (by omega) (by omega)
    rw [wrap_id (x := ((j + 1 : Nat) : Int) - 1) (by omega) (by omega), show ((j + 1 : Nat) : Int) - 1 = (j : Int) by omega] at k5
    refine ⟨b3, run3, at3, Ev.step (fun k => ?_) (k5 _ m1), m2, by omega, by omega, by omega, by omega⟩
    simp only [paygen_Deck_Book.l0]
    rw [if_pos (by omega), hx, Option.bind_some, hy, Option.bind_some, wrap_id (x := 1 + x) (by omega) (by omega), wrap_id (x := run + (1 + x)) (by omega) (by omega)]
theorem book_ok (l : List Int) (n : Nat) (hn : n ≤ 20) (at_ : Int) (h0 : 0 ≤ at_) (h1 : at_ ≤ 500000) : ∃ b run at2, Ev (fun k => paygen_Deck_Book.f k l at_ (n : Int)) (b, at2) ∧ DBook b run ∧ run ≤ 2 * n ∧ b.length ≤ 4 * n ∧ at_ ≤ at2 ∧ at2 ≤ at_ + 1001 := by
  unfold paygen_Deck_Book.f
  rw [wrap_id (x := (n : Int) + 1) (by omega) (by omega)]
  obtain ⟨j, hj, j0, j1⟩ := next_ok l at_ ((n : Int) + 1) h0 (by omega) (by omega) (by omega)
  rw [hj]
  simp only [Option.bind_some]
  obtain ⟨j, rfl⟩ := Int.eq_ofNat_of_zero_le j0
  obtain ⟨b, run, at2, k1, k2, k3, k4, k5, k6⟩ := book_l0 l j [] 0 (at_ + 1) ⟨by simp, rfl, by simp⟩ (by omega) (by omega) (by simp; omega) (by omega) (by omega)
  exact ⟨b, run, at2, k1, k2, by omega, by simp at k4; omega, by omega, by omega⟩
end Go.Proofs.Ytfakedchahildaa.DeckLib
