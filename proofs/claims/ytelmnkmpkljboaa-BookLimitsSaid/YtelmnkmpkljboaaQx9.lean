-- Printed by wip/xprint.py over the translation, with contracts proved by hand among them. Lean checks it.
import Derived.Test.YtelmnkmpkljboaaQx0
namespace Go.Proofs.Ytelmnkmpkljboaa.Q
open Go.RowKit Go.Proofs.YtelmnkmpkljboaaW.PrintWords Go.Proofs.YtelmnkmpkljboaaW.PrintLast Go.Proofs.YtelmnkmpkljboaaW.PrintMore
attribute [local go_sem] max2_int min2_int max_two min_two max_three min_three max_four min_four   -- for this text's walks alone
set_option linter.unusedVariables false
set_option linter.unusedSimpArgs false

/-! ### payrolllaw35_short: function 17 -/
def payrolllaw35_short.l0 : Nat → List (S27) → Int → Option (Bool)
  | 0, _, _ => none
  | k + 1, x0, x3 => if x3 < (x0.length : Int) then (if 0 ≤ x3 then (if (((rd_T27 x0 x3).f3.f1).size : Int) > 60 then (some false) else (payrolllaw35_short.l0 k x0 (wrap64 (x3 + 1)))) else (none)) else (some true)
def payrolllaw35_short.f (k : Nat) (l0 : List (S27)) : Option (Bool) := if (l0.length : Int) > 40 then (some false) else (payrolllaw35_short.l0 k l0 0)
theorem payrolllaw35_short.mono_l : ∀ k, (∀ y0 y1, LeO (payrolllaw35_short.l0 k y0 y1) (payrolllaw35_short.l0 (k + 1) y0 y1))
  | 0 => fun _ _ r h => by simp [payrolllaw35_short.l0] at h
  | k + 1 => by
    have ih0 := payrolllaw35_short.mono_l k
    · intro y0 y1
      unfold payrolllaw35_short.l0
      repeat' first
      | (with_reducible exact ih0 _ _)
      | (with_reducible exact LeO.refl _)
      | (with_reducible exact LeO.none _)
      | (with_reducible refine LeO.ite ?_ ?_)
      | (with_reducible refine LeO.bind ?_ (fun _ => ?_))
      | exact ih0 _ _
      | exact LeO.none _
      | refine LeO.ite ?_ ?_
      | refine LeO.bind ?_ (fun _ => ?_)
theorem payrolllaw35_short.mono : ∀ a0 k, LeO (payrolllaw35_short.f k a0) (payrolllaw35_short.f (k + 1) a0) := by
  intro a0 k
  have ih0 := payrolllaw35_short.mono_l k
  unfold payrolllaw35_short.f
  repeat' first
      | (with_reducible exact ih0 _ _)
      | (with_reducible exact LeO.refl _)
      | (with_reducible exact LeO.none _)
      | (with_reducible refine LeO.ite ?_ ?_)
      | (with_reducible refine LeO.bind ?_ (fun _ => ?_))
      | exact ih0 _ _
      | exact LeO.none _
      | refine LeO.ite ?_ ?_
      | refine LeO.bind ?_ (fun _ => ?_)
set_option maxHeartbeats 8000000 in
set_option maxRecDepth 100000 in
theorem payrolllaw35_short.calls (k : Nat) (A0 : Option Addr) (c0 : Nat) (l0 : List (S27)) (r : Bool) (w : World) (hr0 : Kd.C k27 w A0 l0.length l0) (hc0 : l0.length ≤ c0) (h : payrolllaw35_short.f k l0 = some r) :
    Calls Try.prog 17 #[.slice A0 l0.length c0] w fun e w' => e = .returned (.bool r) ∧ Drawn0 w w' := by
  have HR0 := Aside0.mk hr0
  have HC0 := Aside0.mk hc0
  clear hr0 hc0
  have H : (if (l0.length : Int) > 40 then (some false) else (payrolllaw35_short.l0 k l0 0)) = some r := h
  clear h
  by_cases c2 : (l0.length : Int) > 40
  · rw [if_pos c2] at H
    have c2b0 : decide (40 < (l0.length : Int)) = true := decide_eq_true c2
    have c2b1 : decide (40 < l0.length) = true := decide_eq_true (by omega)
    clear c2
    obtain rfl := Option.some.inj H
    go_enter Try.func17, Try.ntmps17
    go_wp2
    go_ret
    exact ⟨by first | rfl | (simp; done) | (simp [*]; done), by repeat (first | exact Drawn0.refl _ | apply Drawn0.step)⟩
  · rw [if_neg c2] at H
    have c2b0 : decide (40 < (l0.length : Int)) = false := decide_eq_false c2
    have c2b1 : decide (40 < l0.length) = false := decide_eq_false (by omega)
    clear c2
    have H' := Aside0.mk H
    clear H
    go_enter Try.func17, Try.ntmps17
    go_wp2
    go_loopg [3] k (fun kq v3 w' => ∃ (x3_1 : Int), v3 = .int .i64 x3_1 ∧ Aside0 (payrolllaw35_short.l0 kq l0 x3_1 = some r) ∧ Aside0 (kq ≤ k) ∧ Drawn0 w w')
    case atStart => exact ⟨(0), (by first | rfl | (simp; done) | (simp [*]; done)), H', ⟨Nat.le_refl _⟩, by repeat (first | exact Drawn0.refl _ | apply Drawn0.step)⟩
    case round =>
      clear H'
      try clear c1
      try clear c2
      try clear c2b0
      try clear c2b1
      try clear p2
      obtain ⟨x3_1, rfl, HA, HK1, ⟨m1, rfl⟩⟩ := hrel
      cases gk with
      | zero => exact absurd HA.out (by simp [payrolllaw35_short.l0])
      | succ k1 =>
        have H := HA.out
        clear HA
        simp only [payrolllaw35_short.l0] at H
        by_cases c3 : x3_1 < (l0.length : Int)
        · rw [if_pos c3] at H
          have c3b0 : decide (x3_1 < (l0.length : Int)) = true := decide_eq_true c3
          clear c3
          by_cases c4 : 0 ≤ x3_1
          · rw [if_pos c4] at H
            have c4b0 : decide (0 ≤ x3_1) = true := decide_eq_true c4
            clear c4
            by_cases c5 : (((rd_T27 l0 x3_1).f3.f1).size : Int) > 60
            · rw [if_pos c5] at H
              have c5b0 : decide (60 < (((rd_T27 l0 x3_1).f3.f1).size : Int)) = true := decide_eq_true c5
              have c5b1 : decide (60 < ((rd_T27 l0 x3_1).f3.f1).size) = true := decide_eq_true (by omega)
              clear c5
              obtain rfl := Option.some.inj H
              have p206 : 0 ≤ (x3_1 : Int) := of_decide_eq_true (by first | (with_reducible assumption) | assumption)
              have q206 : x3_1 < (l0.length : Int) := of_decide_eq_true (by first | (with_reducible assumption) | assumption)
              obtain ⟨ad206, e206, hx206_0, hx206_1, hx206_2, hx206_3, hx206_4, hx206_5⟩ := at_T27 HR0.out x3_1 p206 q206
              cases e206
              replace p206 := eq_true p206
              replace q206 := eq_true q206
              go_wp2
              go_ret
              exact ⟨by first | rfl | (simp; done) | (simp [*]; done), by repeat (first | exact Drawn0.refl _ | apply Drawn0.step)⟩
            · rw [if_neg c5] at H
              have c5b0 : decide (60 < (((rd_T27 l0 x3_1).f3.f1).size : Int)) = false := decide_eq_false c5
              have c5b1 : decide (60 < ((rd_T27 l0 x3_1).f3.f1).size) = false := decide_eq_false (by omega)
              clear c5
              have H' := Aside0.mk H
              clear H
              have p206 : 0 ≤ (x3_1 : Int) := of_decide_eq_true (by first | (with_reducible assumption) | assumption)
              have q206 : x3_1 < (l0.length : Int) := of_decide_eq_true (by first | (with_reducible assumption) | assumption)
              obtain ⟨ad206, e206, hx206_0, hx206_1, hx206_2, hx206_3, hx206_4, hx206_5⟩ := at_T27 HR0.out x3_1 p206 q206
              cases e206
              replace p206 := eq_true p206
              replace q206 := eq_true q206
              go_wp2
              go_roundg k1
              case measure => have := HK1.out; omega
              case rel => exact ⟨(wrap64 (x3_1 + 1)), (by first | rfl | (simp; done) | (simp [*]; done)), H', ⟨by have := HK1.out; omega⟩, by repeat (first | exact Drawn0.refl _ | apply Drawn0.step)⟩
          · rw [if_neg c4] at H
            exact absurd H (by simp)
        · rw [if_neg c3] at H
          have c3b0 : decide (x3_1 < (l0.length : Int)) = false := decide_eq_false c3
          clear c3
          obtain rfl := Option.some.inj H
          go_wp2
          go_ret
          exact ⟨by first | rfl | (simp; done) | (simp [*]; done), by repeat (first | exact Drawn0.refl _ | apply Drawn0.step)⟩

/-- A state of type 64 at block g of W; what its slices lead to came in by w0. -/
def IsS64 (w0 W : World) (g : Nat) (f0 : List Int) (f1 : Int) : Prop := ∃ A0 c0, W.heap[g]? = some (.cells #[.slice A0 f0.length c0, .int .i64 f1] 64 (0, 0)) ∧ w0.heap.size ≤ g ∧ Kd.C (Kd.int .i64) w0 A0 f0.length f0
theorem IsS64.grown {w0 W : World} {g : Nat} {f0 : List Int} {f1 : Int} {W1 : World} {row : Option Nat} (h : IsS64 w0 W g f0 f1) (hw : W.grownBy W1 row) (hne : some g ≠ row) : IsS64 w0 W1 g f0 f1 := by
  obtain ⟨A0, c0, hb, hg, hr0⟩ := h
  exact ⟨A0, c0, blk_grown hb hw hne, hg, hr0⟩
theorem IsS64.own_neN {w0 W : World} {g : Nat} {f0 : List Int} {f1 : Int} {α : Type} {d : Kd α} {e : Nat} {base : Nat} {ok : Nat → Prop} {v : Value} {xs : List α} (h : IsS64 w0 W g f0 f1) (ho : Kd.N d e W base ok v xs) (ht : e ≠ 64) : some g ≠ v.ownBlock := by
  obtain ⟨A0, c0, hb, hg, hr0⟩ := h
  exact Kd.N_ne ho hb ht
theorem IsS64.fresh {w0 W : World} {g : Nat} {f0 : List Int} {f1 : Int} (h : IsS64 w0 W g f0 f1) : ∀ k, W.heap.size ≤ k → k ≠ g := by
  obtain ⟨A0, c0, hb, hg, hr0⟩ := h
  exact Kd.freshB hb
theorem IsS64.kept {w0 W : World} {g : Nat} {f0 : List Int} {f1 : Int} {W1 : World} {S : Nat → Prop} (h : IsS64 w0 W g f0 f1) (hk : Kept W W1 S) (hne : ¬ S g) : IsS64 w0 W1 g f0 f1 := by
  obtain ⟨A0, c0, hb, hg, hr0⟩ := h
  exact ⟨A0, c0, blk_kept hb hk hne, hg, hr0⟩
theorem IsS64.below {w0 W : World} {g : Nat} {f0 : List Int} {f1 : Int} {W1 : World} (h : IsS64 w0 W g f0 f1) (hw : Below W.heap.size W W1) : IsS64 w0 W1 g f0 f1 := h.grown (grown_of_below hw none) (by simp)
theorem IsS64.alloc {w0 W : World} {g : Nat} {f0 : List Int} {f1 : Int} (h : IsS64 w0 W g f0 f1) (o : Obj) : IsS64 w0 (W.alloc o) g f0 f1 := h.below (below_alloc (Below.refl _ _) o)
theorem IsS64.drewN {w0 W : World} {g : Nat} {f0 : List Int} {f1 : Int} (h : IsS64 w0 W g f0 f1) (m : Nat) : IsS64 w0 (W.drewN m) g f0 f1 := h
theorem IsS64.drew {w0 W : World} {g : Nat} {f0 : List Int} {f1 : Int} (h : IsS64 w0 W g f0 f1) : IsS64 w0 W.drew g f0 f1 := h
theorem IsS64.at_ {w0 W : World} {g : Nat} {f0 : List Int} {f1 : Int} {w' : World} {m : Nat} (hq : W.drewN m = w') (h : IsS64 w0 W g f0 f1) : IsS64 w0 w' g f0 f1 := by subst hq; exact IsS64.drewN h m
theorem IsS64.apart {w0 W : World} {g : Nat} {f0 : List Int} {f1 : Int} {α : Type} {d : Kd α} {e : Nat} {base : Nat} {ok : Nat → Prop} {v : Value} {xs : List α} (h : IsS64 w0 W g f0 f1) (ho : d.R e W base ok v xs) (ht : ∀ q, q ∈ e :: d.E → q ≠ 64) : d.R e W base (fun k => ok k ∧ k ≠ g) v xs := by
  obtain ⟨A0, c0, hb, hg, hr0⟩ := h
  exact Kd.R_types ho hb ht
theorem IsS64.own_ne {w0 W : World} {g : Nat} {f0 : List Int} {f1 : Int} {α : Type} {d : Kd α} {e : Nat} {base : Nat} {ok : Nat → Prop} {v : Value} {xs : List α} (h : IsS64 w0 W g f0 f1) (ho : d.R e W base ok v xs) (ht : e ≠ 64) : some g ≠ v.ownBlock := by
  obtain ⟨A0, c0, hb, hg, hr0⟩ := h
  exact Kd.R_ne ho hb ht
theorem IsS64.apartQ {w0 W : World} {g : Nat} {f0 : List Int} {f1 : Int} {α : Type} {d : Kd α} {e : Nat} {base : Nat} {ok : Nat → Prop} {v : Value} {xs : List α} (h : IsS64 w0 W g f0 f1) (ho : d.Q e W base ok v xs) (ht : ∀ q, q ∈ e :: d.E → q ≠ 64) : d.Q e W base (fun k => ok k ∧ k ≠ g) v xs := by
  obtain ⟨A0, c0, hb, hg, hr0⟩ := h
  exact Kd.Q_types ho hb ht
theorem IsS64.own_neQ {w0 W : World} {g : Nat} {f0 : List Int} {f1 : Int} {α : Type} {d : Kd α} {e : Nat} {base : Nat} {ok : Nat → Prop} {v : Value} {xs : List α} (h : IsS64 w0 W g f0 f1) (ho : d.Q e W base ok v xs) (ht : e ≠ 64) : some g ≠ v.ownBlock := by
  obtain ⟨A0, c0, hb, hg, hr0⟩ := h
  exact Kd.Q_ne ho hb ht
theorem IsS64.apartS {w0 W : World} {g : Nat} {f0 : List Int} {f1 : Int} {α : Type} {d : Kd α} {e : Nat} {base : Nat} {ok : Nat → Prop} {v : Value} {xs : List α} (h : IsS64 w0 W g f0 f1) (ho : d.S e W base ok v xs) (ht : ∀ q, q ∈ e :: d.E → q ≠ 64) : d.S e W base (fun k => ok k ∧ k ≠ g) v xs := by
  obtain ⟨A0, c0, hb, hg, hr0⟩ := h
  exact Kd.S_types ho hb ht
theorem IsS64.own_neS {w0 W : World} {g : Nat} {f0 : List Int} {f1 : Int} {α : Type} {d : Kd α} {e : Nat} {base : Nat} {ok : Nat → Prop} {v : Value} {xs : List α} (h : IsS64 w0 W g f0 f1) (ho : d.S e W base ok v xs) (ht : e ≠ 64) : some g ≠ v.ownBlock := by
  obtain ⟨A0, c0, hb, hg, hr0⟩ := h
  exact Kd.S_ne ho hb ht
theorem IsS64.lt {w0 W : World} {g : Nat} {f0 : List Int} {f1 : Int} (h : IsS64 w0 W g f0 f1) : g < W.heap.size := by
  obtain ⟨A0, c0, hb, hg, hr0⟩ := h
  exact blk_lt hb
theorem IsS64.ge {w0 W : World} {g : Nat} {f0 : List Int} {f1 : Int} (h : IsS64 w0 W g f0 f1) : w0.heap.size ≤ g := by
  obtain ⟨A0, c0, hb, hg, hr0⟩ := h
  exact hg
theorem IsS64.ne_blk {w0 W : World} {g : Nat} {f0 : List Int} {f1 : Int} {a : Nat} {cs : Array Value} {t : TypeId} {fr : Nat × Nat} (h : IsS64 w0 W g f0 f1) (hb2 : W.heap[a]? = some (.cells cs t fr)) (ht : t ≠ 64) : g ≠ a := by
  obtain ⟨A0, c0, hb, hg, hr0⟩ := h
  rintro rfl
  rw [hb] at hb2
  injection hb2 with hb2
  injection hb2 with _ ht2
  exact ht ht2.symm
theorem IsS64.far {w0 W : World} {g : Nat} {f0 : List Int} {f1 : Int} {p : Addr} (h : IsS64 w0 W g f0 f1) (hne : g ≠ p.block) (u : Value) : IsS64 w0 (W.setCell p u) g f0 f1 := by
  obtain ⟨A0, c0, hb, hg, hr0⟩ := h
  exact ⟨A0, c0, blk_far hb hne u, hg, hr0⟩
theorem cellS64_0 {W : World} {g : Nat} {A0 : Option Addr} {c0 : Nat} {f0 : List Int} {f1 : Int} (h : W.heap[g]? = some (.cells #[.slice A0 f0.length c0, .int .i64 f1] 64 (0, 0))) : W.cell? ⟨g, 0, none⟩ = some (.slice A0 f0.length c0) := (blk_cell h 0).trans rfl
theorem cellS64_1 {W : World} {g : Nat} {A0 : Option Addr} {c0 : Nat} {f0 : List Int} {f1 : Int} (h : W.heap[g]? = some (.cells #[.slice A0 f0.length c0, .int .i64 f1] 64 (0, 0))) : W.cell? ⟨g, 1, none⟩ = some (.int .i64 f1) := (blk_cell h 1).trans rfl
theorem IsS64.set_1 {w0 W : World} {g : Nat} {f0 : List Int} {f1 : Int} (h : IsS64 w0 W g f0 f1) (x : Int) : IsS64 w0 (W.setCell ⟨g, 1, none⟩ (.int .i64 x)) g f0 x := by
  obtain ⟨A0, c0, hb, hg, hr0⟩ := h
  exact ⟨A0, c0, by simpa using blk_set hb 1 (.int .i64 x), hg, hr0⟩
theorem IsS64.new (w0 W : World) (A0 : Option Addr) (c0 : Nat) (f0 : List Int) (f1 : Int) (hB : Below w0.heap.size w0 W) (hr0 : Kd.C (Kd.int .i64) w0 A0 f0.length f0) : IsS64 w0 (W.alloc (.cells #[.slice A0 f0.length c0, .int .i64 f1] 64)) W.heap.size f0 f1 := ⟨A0, c0, by simpa using heap_alloc_new W _, hB.size, hr0⟩

/-! ### paygen_New: function 18 -/
def paygen_New.f (l0 : List Int) : Option (List Int × Int) := some (l0, 0)
set_option maxHeartbeats 8000000 in
set_option maxRecDepth 100000 in
theorem paygen_New.calls (A0 : Option Addr) (c0 : Nat) (l0 : List Int) (r1 : List Int) (r2 : Int) (w0 w : World) (hB : Below w0.heap.size w0 w) (hr0 : Kd.C (Kd.int .i64) w0 A0 l0.length l0) (hc0 : l0.length ≤ c0) (h : paygen_New.f l0 = some (r1, r2)) :
    Calls Try.prog 18 #[.slice A0 l0.length c0] w fun e w' => ∃ g_ : Nat, e = .returned (.pointer (some ⟨g_, 0, none⟩)) ∧ IsS64 w0 w' g_ r1 r2 ∧ Below w0.heap.size w0 w' ∧ Below w.heap.size w w' := by
  have hu64 := Try.underlying64
  have HR0 := Aside0.mk hr0
  have HC0 := Aside0.mk hc0
  clear hr0 hc0
  have HBW := Aside0.mk (Below.refl w.heap.size w)
  have HW0 := Aside0.mk hB.size
  have HB := Aside0.mk hB
  clear hB
  have H : (some (l0, 0)) = some (r1, r2) := h
  clear h
  simp only [Option.some.injEq, Prod.mk.injEq] at H
  obtain ⟨rfl, rfl⟩ := H
  go_enter Try.func18, Try.ntmps18
  go_wp2_with (first | ((with_reducible refine gate_dst (N := 5) rfl ?_); refine box_event ?hg (N := 5) ?hd (cs := #[.slice A0 l0.length c0, .int .i64 0]) (t := 64) ?hr ?_; (case hd => rfl); (case hg => rfl); (case hr => first | (go_simp; done) | (go_simp; rfl)); intro gb207 hg w2 hbox hb; have n0_ := Aside0.mk (below_step HBW.out hb); have n1_ := Aside0.mk (below_step (by repeat (first | (with_reducible first | exact HB.out | apply below_alloc | apply pw_below_drewN | apply below_drew1) | exact HB.out)) hb); have n2_ := Aside0.mk (hbox); have n3_ := Aside0.mk ((by rw [hg]; exact (below_size (by repeat (first | (with_reducible first | exact HBW.out | apply below_alloc | apply pw_below_drewN | apply below_drew1) | exact HBW.out))) : w.heap.size ≤ gb207)); have n4_ := Aside0.mk ((Nat.le_trans HW0.out (by rw [hg]; exact (below_size (by repeat (first | (with_reducible first | exact HBW.out | apply below_alloc | apply pw_below_drewN | apply below_drew1) | exact HBW.out))) : w.heap.size ≤ gb207) : w0.heap.size ≤ gb207)); clear HBW; clear HB; have HBW := n0_; have HB := n1_; have BK207 := n2_; have GW207 := n3_; have GE207 := n4_; clear n0_ n1_ n2_ n3_ n4_; clear hb hbox hg))
  go_ret
  exact ⟨_, rfl, (show IsS64 w0 _ gb207 l0 0 from ⟨_, _, by (with_reducible repeat (first | refine blk_drewN ?_ _ | refine blk_drew ?_ | refine blk_alloc ?_ _)); exact BK207.out, GE207.out, HR0.out⟩), by repeat (first | (with_reducible first | exact HB.out | apply below_alloc | apply pw_below_drewN | apply below_drew1 | refine below_set ?_ GE207.out) | exact HB.out), by repeat (first | (with_reducible first | exact HBW.out | apply below_alloc | apply pw_below_drewN | apply below_drew1 | refine below_set ?_ GW207.out) | exact HBW.out)⟩

/-! ### paygen_Deck_Next: function 23 -/
def paygen_Deck_Next.f (s0_0 : List Int) (s0_1 : Int) (a1 : Int) : Option (Int × Int) := if s0_1 < (s0_0.length : Int) then (if 0 ≤ s0_1 then (if a1 = 0 then (none) else (if (Int.tmod (rd s0_0 s0_1) a1) < 0 then (some (wrap64 ((Int.tmod (rd s0_0 s0_1) a1) + a1), wrap64 (s0_1 + 1))) else (some (Int.tmod (rd s0_0 s0_1) a1, wrap64 (s0_1 + 1))))) else (none)) else (if a1 = 0 then (none) else (if (Int.tmod (wrap64 ((wrap64 (5 * s0_1)) + 2)) a1) < 0 then (some (wrap64 ((Int.tmod (wrap64 ((wrap64 (5 * s0_1)) + 2)) a1) + a1), wrap64 (s0_1 + 1))) else (some (Int.tmod (wrap64 ((wrap64 (5 * s0_1)) + 2)) a1, wrap64 (s0_1 + 1)))))
set_option maxHeartbeats 8000000 in
set_option maxRecDepth 100000 in
theorem paygen_Deck_Next.calls (g : Nat) (s0_0 : List Int) (s0_1 : Int) (a1 : Int) (r1 : Int) (r2 : Int) (w0 w : World) (hI : IsS64 w0 w g s0_0 s0_1) (hB : Below w0.heap.size w0 w) (h : paygen_Deck_Next.f s0_0 s0_1 a1 = some (r1, r2)) :
    Calls Try.prog 23 #[.pointer (some ⟨g, 0, none⟩), .int .i64 a1] w fun e w' => e = .returned (.int .i64 r1) ∧ IsS64 w0 w' g s0_0 r2 ∧ Below w0.heap.size w0 w' ∧ KeepBut w w' g none := by
  have HI0 := Aside0.mk hI
  have HK := Aside0.mk (KeepBut.refl w g none)
  have HL := Aside0.mk hB.size
  clear hI
  have HW0 := Aside0.mk hB.size
  have HB := Aside0.mk hB
  clear hB
  have H : (if s0_1 < (s0_0.length : Int) then (if 0 ≤ s0_1 then (if a1 = 0 then (none) else (if (Int.tmod (rd s0_0 s0_1) a1) < 0 then (some (wrap64 ((Int.tmod (rd s0_0 s0_1) a1) + a1), wrap64 (s0_1 + 1))) else (some (Int.tmod (rd s0_0 s0_1) a1, wrap64 (s0_1 + 1))))) else (none)) else (if a1 = 0 then (none) else (if (Int.tmod (wrap64 ((wrap64 (5 * s0_1)) + 2)) a1) < 0 then (some (wrap64 ((Int.tmod (wrap64 ((wrap64 (5 * s0_1)) + 2)) a1) + a1), wrap64 (s0_1 + 1))) else (some (Int.tmod (wrap64 ((wrap64 (5 * s0_1)) + 2)) a1, wrap64 (s0_1 + 1)))))) = some (r1, r2) := h
  clear h
  by_cases c3 : s0_1 < (s0_0.length : Int)
  · rw [if_pos c3] at H
    have c3b0 : decide (s0_1 < (s0_0.length : Int)) = true := decide_eq_true c3
    clear c3
    by_cases c4 : 0 ≤ s0_1
    · rw [if_pos c4] at H
      have c4b0 : decide (0 ≤ s0_1) = true := decide_eq_true c4
      clear c4
      by_cases c5 : a1 = 0
      · rw [if_pos c5] at H
        exact absurd H (by simp)
      · rw [if_neg c5] at H
        have c5b0 : (a1 == 0) = false := beq_eq_false_iff_ne.mpr c5
        have c5b1 : (a1 != 0) = true := bne_iff_ne.mpr c5
        by_cases c6 : (Int.tmod (rd s0_0 s0_1) a1) < 0
        · rw [if_pos c6] at H
          have c6b0 : decide ((Int.tmod (rd s0_0 s0_1) a1) < 0) = true := decide_eq_true c6
          clear c6
          simp only [Option.some.injEq, Prod.mk.injEq] at H
          obtain ⟨rfl, rfl⟩ := H
          obtain ⟨ASz7_0, cSz7_0, HGz7, hgz7, HSz7_0⟩ := HI0.out
          have hcz7_0 := cellS64_0 HGz7
          have hcz7_1 := cellS64_1 HGz7
          have hfz7_1 := blk_frozen HGz7 1
          clear HGz7 hgz7
          have p208 : 0 ≤ (s0_1 : Int) := of_decide_eq_true (by first | (with_reducible assumption) | assumption)
          have q208 : s0_1 < (s0_0.length : Int) := of_decide_eq_true (by first | (with_reducible assumption) | assumption)
          obtain ⟨ad208, e208, hx208_0⟩ := Kd.at_int HSz7_0 s0_1 p208 q208
          cases e208
          replace hx208_0 := pw_cell_below HB.out hx208_0
          replace p208 := eq_true p208
          replace q208 := eq_true q208
          go_enter Try.func23, Try.ntmps23
          go_wp2
          repeat (go_quiet (fail); try go_wp2)
          go_ret
          exact ⟨by first | rfl | (simp [errW_none, errW_some] <;> rfl) | (simp [*, errW_none, errW_some] <;> rfl), by repeat (first | (with_reducible first | exact HI0.out | apply IsS64.alloc | apply IsS64.drewN | apply IsS64.drew | apply IsS64.set_1) | exact HI0.out), by repeat (first | (with_reducible first | exact HB.out | apply below_alloc | apply pw_below_drewN | apply below_drew1 | refine below_set ?_ (IsS64.ge HI0.out)) | exact HB.out), by repeat (first | (with_reducible first | exact HK.out | apply KeepBut.set_ | apply keep_drewN | apply keep_drew | apply keep_alloc) | exact HK.out)⟩
        · rw [if_neg c6] at H
          have c6b0 : decide ((Int.tmod (rd s0_0 s0_1) a1) < 0) = false := decide_eq_false c6
          clear c6
          simp only [Option.some.injEq, Prod.mk.injEq] at H
          obtain ⟨rfl, rfl⟩ := H
          obtain ⟨ASz8_0, cSz8_0, HGz8, hgz8, HSz8_0⟩ := HI0.out
          have hcz8_0 := cellS64_0 HGz8
          have hcz8_1 := cellS64_1 HGz8
          have hfz8_1 := blk_frozen HGz8 1
          clear HGz8 hgz8
          have p208 : 0 ≤ (s0_1 : Int) := of_decide_eq_true (by first | (with_reducible assumption) | assumption)
          have q208 : s0_1 < (s0_0.length : Int) := of_decide_eq_true (by first | (with_reducible assumption) | assumption)
          obtain ⟨ad208, e208, hx208_0⟩ := Kd.at_int HSz8_0 s0_1 p208 q208
          cases e208
          replace hx208_0 := pw_cell_below HB.out hx208_0
          replace p208 := eq_true p208
          replace q208 := eq_true q208
          go_enter Try.func23, Try.ntmps23
          go_wp2
          repeat (go_quiet (fail); try go_wp2)
          go_ret
          exact ⟨by first | rfl | (simp [errW_none, errW_some] <;> rfl) | (simp [*, errW_none, errW_some] <;> rfl), by repeat (first | (with_reducible first | exact HI0.out | apply IsS64.alloc | apply IsS64.drewN | apply IsS64.drew | apply IsS64.set_1) | exact HI0.out), by repeat (first | (with_reducible first | exact HB.out | apply below_alloc | apply pw_below_drewN | apply below_drew1 | refine below_set ?_ (IsS64.ge HI0.out)) | exact HB.out), by repeat (first | (with_reducible first | exact HK.out | apply KeepBut.set_ | apply keep_drewN | apply keep_drew | apply keep_alloc) | exact HK.out)⟩
    · rw [if_neg c4] at H
      exact absurd H (by simp)
  · rw [if_neg c3] at H
    have c3b0 : decide (s0_1 < (s0_0.length : Int)) = false := decide_eq_false c3
    clear c3
    by_cases c9 : a1 = 0
    · rw [if_pos c9] at H
      exact absurd H (by simp)
    · rw [if_neg c9] at H
      have c9b0 : (a1 == 0) = false := beq_eq_false_iff_ne.mpr c9
      have c9b1 : (a1 != 0) = true := bne_iff_ne.mpr c9
      by_cases c10 : (Int.tmod (wrap64 ((wrap64 (5 * s0_1)) + 2)) a1) < 0
      · rw [if_pos c10] at H
        have c10b0 : decide ((Int.tmod (wrap64 ((wrap64 (5 * s0_1)) + 2)) a1) < 0) = true := decide_eq_true c10
        clear c10
        simp only [Option.some.injEq, Prod.mk.injEq] at H
        obtain ⟨rfl, rfl⟩ := H
        obtain ⟨ASz11_0, cSz11_0, HGz11, hgz11, HSz11_0⟩ := HI0.out
        have hcz11_0 := cellS64_0 HGz11
        have hcz11_1 := cellS64_1 HGz11
        have hfz11_1 := blk_frozen HGz11 1
        clear HGz11 hgz11
        go_enter Try.func23, Try.ntmps23
        go_wp2
        repeat (go_quiet (fail); try go_wp2)
        go_ret
        exact ⟨by first | rfl | (simp [errW_none, errW_some] <;> rfl) | (simp [*, errW_none, errW_some] <;> rfl), by repeat (first | (with_reducible first | exact HI0.out | apply IsS64.alloc | apply IsS64.drewN | apply IsS64.drew | apply IsS64.set_1) | exact HI0.out), by repeat (first | (with_reducible first | exact HB.out | apply below_alloc | apply pw_below_drewN | apply below_drew1 | refine below_set ?_ (IsS64.ge HI0.out)) | exact HB.out), by repeat (first | (with_reducible first | exact HK.out | apply KeepBut.set_ | apply keep_drewN | apply keep_drew | apply keep_alloc) | exact HK.out)⟩
      · rw [if_neg c10] at H
        have c10b0 : decide ((Int.tmod (wrap64 ((wrap64 (5 * s0_1)) + 2)) a1) < 0) = false := decide_eq_false c10
        clear c10
        simp only [Option.some.injEq, Prod.mk.injEq] at H
        obtain ⟨rfl, rfl⟩ := H
        obtain ⟨ASz12_0, cSz12_0, HGz12, hgz12, HSz12_0⟩ := HI0.out
        have hcz12_0 := cellS64_0 HGz12
        have hcz12_1 := cellS64_1 HGz12
        have hfz12_1 := blk_frozen HGz12 1
        clear HGz12 hgz12
        go_enter Try.func23, Try.ntmps23
        go_wp2
        repeat (go_quiet (fail); try go_wp2)
        go_ret
        exact ⟨by first | rfl | (simp [errW_none, errW_some] <;> rfl) | (simp [*, errW_none, errW_some] <;> rfl), by repeat (first | (with_reducible first | exact HI0.out | apply IsS64.alloc | apply IsS64.drewN | apply IsS64.drew | apply IsS64.set_1) | exact HI0.out), by repeat (first | (with_reducible first | exact HB.out | apply below_alloc | apply pw_below_drewN | apply below_drew1 | refine below_set ?_ (IsS64.ge HI0.out)) | exact HB.out), by repeat (first | (with_reducible first | exact HK.out | apply KeepBut.set_ | apply keep_drewN | apply keep_drew | apply keep_alloc) | exact HK.out)⟩

/-! ### paygen_Deck_Pick: function 31 -/
def paygen_Deck_Pick.f (s0_0 : List Int) (s0_1 : Int) (l1 : List Int) : Option (Int × Int) := (paygen_Deck_Next.f s0_0 s0_1 (l1.length : Int)).bind fun bt209 => (if 0 ≤ bt209.1 then (if bt209.1 < (l1.length : Int) then (some (rd l1 bt209.1, bt209.2)) else (none)) else (none))
set_option maxHeartbeats 8000000 in
set_option maxRecDepth 100000 in
theorem paygen_Deck_Pick.calls (g : Nat) (s0_0 : List Int) (s0_1 : Int) (A1 : Option Addr) (c1 : Nat) (l1 : List Int) (r1 : Int) (r2 : Int) (w0 w : World) (hI : IsS64 w0 w g s0_0 s0_1) (hB : Below w0.heap.size w0 w) (hr1 : Kd.C (Kd.int .i64) w A1 l1.length l1) (hc1 : l1.length ≤ c1) (hf1 : ∀ ad, A1 = some ad → 0 < l1.length → ad.block ≠ g) (h : paygen_Deck_Pick.f s0_0 s0_1 l1 = some (r1, r2)) :
    Calls Try.prog 31 #[.pointer (some ⟨g, 0, none⟩), .slice A1 l1.length c1] w fun e w' => e = .returned (.int .i64 r1) ∧ IsS64 w0 w' g s0_0 r2 ∧ Below w0.heap.size w0 w' ∧ KeepBut w w' g none := by
  have HR1 := Aside0.mk hr1
  have HC1 := Aside0.mk hc1
  clear hr1 hc1
  have HI0 := Aside0.mk hI
  have HK := Aside0.mk (KeepBut.refl w g none)
  have HL := Aside0.mk hB.size
  clear hI
  have HW0 := Aside0.mk hB.size
  have HB := Aside0.mk hB
  clear hB
  have H : ((paygen_Deck_Next.f s0_0 s0_1 (l1.length : Int)).bind fun bt209 => (if 0 ≤ bt209.1 then (if bt209.1 < (l1.length : Int) then (some (rd l1 bt209.1, bt209.2)) else (none)) else (none))) = some (r1, r2) := h
  clear h
  replace H := Option.bind_eq_some_iff.mp H
  obtain ⟨⟨t209, t210⟩, A30, H⟩ := H
  replace H : (if 0 ≤ t209 then (if t209 < (l1.length : Int) then (some (rd l1 t209, t210)) else (none)) else (none)) = some (r1, r2) := H
  have A3 := Aside0.mk A30
  clear A30
  by_cases c4 : 0 ≤ t209
  · rw [if_pos c4] at H
    have c4b0 : decide (0 ≤ t209) = true := decide_eq_true c4
    clear c4
    by_cases c5 : t209 < (l1.length : Int)
    · rw [if_pos c5] at H
      have c5b0 : decide (t209 < (l1.length : Int)) = true := decide_eq_true c5
      clear c5
      simp only [Option.some.injEq, Prod.mk.injEq] at H
      obtain ⟨rfl, rfl⟩ := H
      go_enter Try.func31, Try.ntmps31
      go_wp2_with (first | ((with_reducible refine gate_callee (f := 23) rfl ?_); refine goesL_ (some 9) rfl rfl Try.func23 (by kernel_rfl) rfl #[.pointer (some ⟨g, 0, none⟩), .int .i64 (l1.length : Int)] rfl (by (try simp only [List.map_toArray, List.map_cons, List.map_nil]); first | done | rfl | (simp only [List.length_drop, List.length_take]; rfl)) ?_; (with_reducible refine (paygen_Deck_Next.calls g s0_0 s0_1 (l1.length : Int) t209 t210 w0 _ ?side1 ?side2 A3.out).mono ?_); (case side1 => repeat (first | (with_reducible first | exact HI0.out | apply IsS64.alloc | apply IsS64.drewN | apply IsS64.drew | apply IsS64.set_1) | exact HI0.out)); (case side2 => repeat (first | (with_reducible first | exact HB.out | apply below_alloc | apply pw_below_drewN | apply below_drew1 | refine below_set ?_ (IsS64.ge HI0.out)) | exact HB.out)); rintro e w6 ⟨rfl, hi, hb, hk⟩; refine ⟨_, rfl, ?_⟩; have n0_ := Aside0.mk (KeepBut.trans (by repeat (first | (with_reducible first | exact HK.out | apply KeepBut.set_ | apply keep_drewN | apply keep_drew | apply keep_alloc) | exact HK.out)) hk (.inl rfl)); have n1_ := Aside0.mk (hb); have n2_ := Aside0.mk (hi); clear HK; clear HB; clear HI0; have HK := n0_; have HB := n1_; have HI0 := n2_; clear n0_ n1_ n2_; (try clear hb); (try clear hb2); (try clear hk); (try clear hi); have p211 : 0 ≤ (t209 : Int) := of_decide_eq_true (by first | (with_reducible assumption) | assumption); have q211 : t209 < (l1.length : Int) := of_decide_eq_true (by first | (with_reducible assumption) | assumption); obtain ⟨ad211, e211, hx211_0⟩ := Kd.at_int HR1.out t209 p211 q211; cases e211; replace hx211_0 := keep_cell HK.out hx211_0 (by first | (rw [add_block]; exact hf1 _ rfl (by omega)) | exact hf1 _ rfl (by omega) | exact hf1 ad211 rfl (by omega)); replace p211 := eq_true p211; replace q211 := eq_true q211))
      go_ret
      exact ⟨by first | rfl | (simp [errW_none, errW_some] <;> rfl) | (simp [*, errW_none, errW_some] <;> rfl), by repeat (first | (with_reducible first | exact HI0.out | apply IsS64.alloc | apply IsS64.drewN | apply IsS64.drew | apply IsS64.set_1) | exact HI0.out), by repeat (first | (with_reducible first | exact HB.out | apply below_alloc | apply pw_below_drewN | apply below_drew1 | refine below_set ?_ (IsS64.ge HI0.out)) | exact HB.out), by repeat (first | (with_reducible first | exact HK.out | apply KeepBut.set_ | apply keep_drewN | apply keep_drew | apply keep_alloc) | exact HK.out)⟩
    · rw [if_neg c5] at H
      exact absurd H (by simp)
  · rw [if_neg c4] at H
    exact absurd H (by simp)

/-! ### paygen_Deck_Small: function 55 -/
def paygen_Deck_Small.f (s0_0 : List Int) (s0_1 : Int) : Option (Int × Int) := (paygen_Deck_Next.f s0_0 s0_1 5).bind fun bt212 => (if bt212.1 = 0 then ((paygen_Deck_Pick.f s0_0 bt212.2 (([0, 0, 1, 100] : List Int))).bind fun bt217 => (some (bt217.1, bt217.2))) else ((paygen_Deck_Next.f s0_0 bt212.2 600000).bind fun bt219 => (some (bt219.1, bt219.2))))
set_option maxHeartbeats 8000000 in
set_option maxRecDepth 100000 in
theorem paygen_Deck_Small.calls (g : Nat) (s0_0 : List Int) (s0_1 : Int) (r1 : Int) (r2 : Int) (w0 w : World) (hI : IsS64 w0 w g s0_0 s0_1) (hB : Below w0.heap.size w0 w) (h : paygen_Deck_Small.f s0_0 s0_1 = some (r1, r2)) :
    Calls Try.prog 55 #[.pointer (some ⟨g, 0, none⟩)] w fun e w' => e = .returned (.int .i64 r1) ∧ IsS64 w0 w' g s0_0 r2 ∧ Below w0.heap.size w0 w' ∧ KeepBut w w' g none := by
  have HI0 := Aside0.mk hI
  have HK := Aside0.mk (KeepBut.refl w g none)
  have HL := Aside0.mk hB.size
  clear hI
  have HW0 := Aside0.mk hB.size
  have HB := Aside0.mk hB
  clear hB
  have H : ((paygen_Deck_Next.f s0_0 s0_1 5).bind fun bt212 => (if bt212.1 = 0 then ((paygen_Deck_Pick.f s0_0 bt212.2 (([0, 0, 1, 100] : List Int))).bind fun bt217 => (some (bt217.1, bt217.2))) else ((paygen_Deck_Next.f s0_0 bt212.2 600000).bind fun bt219 => (some (bt219.1, bt219.2))))) = some (r1, r2) := h
  clear h
  replace H := Option.bind_eq_some_iff.mp H
  obtain ⟨⟨t212, t213⟩, A20, H⟩ := H
  replace H : (if t212 = 0 then ((paygen_Deck_Pick.f s0_0 t213 (([0, 0, 1, 100] : List Int))).bind fun bt217 => (some (bt217.1, bt217.2))) else ((paygen_Deck_Next.f s0_0 t213 600000).bind fun bt219 => (some (bt219.1, bt219.2)))) = some (r1, r2) := H
  have A2 := Aside0.mk A20
  clear A20
  by_cases c3 : t212 = 0
  · rw [if_pos c3] at H
    have c3b0 : (t212 == 0) = true := beq_iff_eq.mpr c3
    have c3b1 : (t212 != 0) = false := bne_eq_false_iff_eq.mpr c3
    clear c3
    obtain ⟨y214, hy214⟩ : ∃ y_ : List Int, y_ = (([0, 0, 1, 100] : List Int)) := ⟨_, rfl⟩
    replace H : ((paygen_Deck_Pick.f s0_0 t213 y214).bind fun bt217 => (some (bt217.1, bt217.2))) = some (r1, r2) := by first | (rw [hy214]; with_reducible exact H) | (have H2_ := (Option.bind_some _ _).symm.trans H; rw [hy214]; with_reducible exact H2_) | (have H2_ := (Option.bind_some _ _).symm.trans H; with_reducible exact H2_) | with_reducible exact H | (rw [hy214]; exact H) | exact H
    have Ny214 := Aside0.mk hy214
    clear hy214
    replace H := Option.bind_eq_some_iff.mp H
    obtain ⟨⟨t217, t218⟩, A40, H⟩ := H
    replace H : (some (t217, t218)) = some (r1, r2) := H
    have A4 := Aside0.mk A40
    clear A40
    simp only [Option.some.injEq, Prod.mk.injEq] at H
    obtain ⟨rfl, rfl⟩ := H
    go_enter Try.func55, Try.ntmps55
    go_wp2_with (first | ((with_reducible refine gate_callee (f := 23) rfl ?_); refine goesL_ (some 4) rfl rfl Try.func23 (by kernel_rfl) rfl #[.pointer (some ⟨g, 0, none⟩), .int .i64 5] rfl (by (try simp only [List.map_toArray, List.map_cons, List.map_nil]); first | done | rfl | (simp only [List.length_drop, List.length_take]; rfl)) ?_; (with_reducible refine (paygen_Deck_Next.calls g s0_0 s0_1 5 t212 t213 w0 _ ?side1 ?side2 A2.out).mono ?_); (case side1 => repeat (first | (with_reducible first | exact HI0.out | apply IsS64.alloc | apply IsS64.drewN | apply IsS64.drew | apply IsS64.set_1) | exact HI0.out)); (case side2 => repeat (first | (with_reducible first | exact HB.out | apply below_alloc | apply pw_below_drewN | apply below_drew1 | refine below_set ?_ (IsS64.ge HI0.out)) | exact HB.out)); rintro e w5 ⟨rfl, hi, hb, hk⟩; refine ⟨_, rfl, ?_⟩; have n0_ := Aside0.mk (KeepBut.trans (by repeat (first | (with_reducible first | exact HK.out | apply KeepBut.set_ | apply keep_drewN | apply keep_drew | apply keep_alloc) | exact HK.out)) hk (.inl rfl)); have n1_ := Aside0.mk (hb); have n2_ := Aside0.mk (hi); clear HK; clear HB; clear HI0; have HK := n0_; have HB := n1_; have HI0 := n2_; clear n0_ n1_ n2_; (try clear hb); (try clear hb2); (try clear hk); (try clear hi)) | ((with_reducible refine gate_dst (N := 7) rfl ?_); refine Kd.R_lit (Kd.int .i64) _ 3 ?hg (N := 7) ?hd (xs := ([0, 0, 1, 100] : List Int)) (inner := [.int .i64 0, .int .i64 0, .int .i64 1, .int .i64 100]) (ok := fun _ => True) (okp := fun _ => True) ?hr ?hp (fun _ hk => hk) trivial (Below.refl _ _) (Nat.le_refl _) (by simp) ?_; (case hd => rfl); (case hg => rfl); (case hr => first | (go_simp; done) | (go_simp; rfl)); (case hp => exact (Reps.one (show Kd.M (Kd.int .i64) _ _ _ 0 [.int .i64 0] from rfl) (Reps.one (show Kd.M (Kd.int .i64) _ _ _ 0 [.int .i64 0] from rfl) (Reps.one (show Kd.M (Kd.int .i64) _ _ _ 1 [.int .i64 1] from rfl) (Reps.one (show Kd.M (Kd.int .i64) _ _ _ 100 [.int .i64 100] from rfl) (Reps.none _ _)))))); intro v215 w6 ho7 hb hg_ hnew_; clear hg_ hnew_; (first | rw [← Ny214.out] at ho7 | (simp only [Int.reduceToNat] at ho7; rw [← Ny214.out] at ho7)); have n0_ := Aside0.mk (Kd.R_lower ho7 (keep_size (w := w) (g := g) (row := none) (by repeat (first | (with_reducible first | exact HK.out | apply KeepBut.set_ | apply keep_drewN | apply keep_drew | apply keep_alloc) | exact HK.out)))); have n1_ := Aside0.mk (IsS64.below (by repeat (first | (with_reducible first | exact HI0.out | apply IsS64.alloc | apply IsS64.drewN | apply IsS64.drew | apply IsS64.set_1) | exact HI0.out)) hb); have n2_ := Aside0.mk (KeepBut.trans (by repeat (first | (with_reducible first | exact HK.out | apply KeepBut.set_ | apply keep_drewN | apply keep_drew | apply keep_alloc) | exact HK.out)) (KeepBut.of_below hb g none) (.inl rfl)); have n3_ := Aside0.mk (below_step (by repeat (first | (with_reducible first | exact HB.out | apply below_alloc | apply pw_below_drewN | apply below_drew1 | refine below_set ?_ (IsS64.ge HI0.out)) | exact HB.out)) hb); clear HI0; clear HK; clear HB; have HO216 := n0_; have HI0 := n1_; have HK := n2_; have HB := n3_; clear n0_ n1_ n2_ n3_; clear hb ho7; obtain ⟨Ao8, co8, eo8⟩ := Kd.R_slice HO216.out; subst eo8) | ((with_reducible refine gate_callee (f := 31) rfl ?_); refine goesL_ (some 8) rfl rfl Try.func31 (by kernel_rfl) rfl #[.pointer (some ⟨g, 0, none⟩), .slice Ao8 y214.length co8] rfl (by (try simp only [List.map_toArray, List.map_cons, List.map_nil]); first | done | rfl | (simp only [List.length_drop, List.length_take]; rfl)) ?_; (with_reducible refine (paygen_Deck_Pick.calls g s0_0 t213 _ _ y214 t217 t218 w0 _ ?side1 ?side2 ?side3 ?side4 ?side5 A4.out).mono ?_); (case side1 => repeat (first | (with_reducible first | exact HI0.out | apply IsS64.alloc | apply IsS64.drewN | apply IsS64.drew | apply IsS64.set_1) | exact HI0.out)); (case side2 => repeat (first | (with_reducible first | exact HB.out | apply below_alloc | apply pw_below_drewN | apply below_drew1 | refine below_set ?_ (IsS64.ge HI0.out)) | exact HB.out)); (case side3 => repeat (first | exact (Kd.R_reads' HO216.out).2.2 | (with_reducible refine Kd.C_alloc ?_ _) | (with_reducible refine Kd.C_drewN ?_ _) | (with_reducible refine Kd.C_drew ?_))); (case side4 => exact (Kd.R_reads' HO216.out).2.1); (case side5 => exact far_slice (IsS64.own_ne HI0.out HO216.out (by decide))); rintro e w9 ⟨rfl, hi, hb, hk⟩; refine ⟨_, rfl, ?_⟩; have n0_ := Aside0.mk (Kd.R_mono (Kd.R_keep (IsS64.apart (show IsS64 w0 _ g s0_0 t213 from by repeat (first | (with_reducible first | exact HI0.out | apply IsS64.alloc | apply IsS64.drewN | apply IsS64.drew | apply IsS64.set_1) | exact HI0.out)) (by (with_reducible repeat (first | apply Kd.R_alloc | apply Kd.R_drewN | apply Kd.R_drew)); exact HO216.out) (by decide)) hk (fun _ h => h.2)) (fun _ h => h.1)); have n1_ := Aside0.mk (KeepBut.trans (by repeat (first | (with_reducible first | exact HK.out | apply KeepBut.set_ | apply keep_drewN | apply keep_drew | apply keep_alloc) | exact HK.out)) hk (.inl rfl)); have n2_ := Aside0.mk (hb); have n3_ := Aside0.mk (hi); clear HO216; clear HK; clear HB; clear HI0; have HO216 := n0_; have HK := n1_; have HB := n2_; have HI0 := n3_; clear n0_ n1_ n2_ n3_; (try clear hb); (try clear hb2); (try clear hk); (try clear hi)))
    go_ret
    exact ⟨by first | rfl | (simp [errW_none, errW_some] <;> rfl) | (simp [*, errW_none, errW_some] <;> rfl), by repeat (first | (with_reducible first | exact HI0.out | apply IsS64.alloc | apply IsS64.drewN | apply IsS64.drew | apply IsS64.set_1) | exact HI0.out), by repeat (first | (with_reducible first | exact HB.out | apply below_alloc | apply pw_below_drewN | apply below_drew1 | refine below_set ?_ (IsS64.ge HI0.out)) | exact HB.out), by repeat (first | (with_reducible first | exact HK.out | apply KeepBut.set_ | apply keep_drewN | apply keep_drew | apply keep_alloc) | exact HK.out)⟩
  · rw [if_neg c3] at H
    have c3b0 : (t212 == 0) = false := beq_eq_false_iff_ne.mpr c3
    have c3b1 : (t212 != 0) = true := bne_iff_ne.mpr c3
    replace H := Option.bind_eq_some_iff.mp H
    obtain ⟨⟨t219, t220⟩, A100, H⟩ := H
    replace H : (some (t219, t220)) = some (r1, r2) := H
    have A10 := Aside0.mk A100
    clear A100
    simp only [Option.some.injEq, Prod.mk.injEq] at H
    obtain ⟨rfl, rfl⟩ := H
    go_enter Try.func55, Try.ntmps55
    go_wp2_with (first | ((with_reducible refine gate_callee (f := 23) rfl ?_); refine goesL_ (some 4) rfl rfl Try.func23 (by kernel_rfl) rfl #[.pointer (some ⟨g, 0, none⟩), .int .i64 5] rfl (by (try simp only [List.map_toArray, List.map_cons, List.map_nil]); first | done | rfl | (simp only [List.length_drop, List.length_take]; rfl)) ?_; (with_reducible refine (paygen_Deck_Next.calls g s0_0 s0_1 5 t212 t213 w0 _ ?side1 ?side2 A2.out).mono ?_); (case side1 => repeat (first | (with_reducible first | exact HI0.out | apply IsS64.alloc | apply IsS64.drewN | apply IsS64.drew | apply IsS64.set_1) | exact HI0.out)); (case side2 => repeat (first | (with_reducible first | exact HB.out | apply below_alloc | apply pw_below_drewN | apply below_drew1 | refine below_set ?_ (IsS64.ge HI0.out)) | exact HB.out)); rintro e w11 ⟨rfl, hi, hb, hk⟩; refine ⟨_, rfl, ?_⟩; have n0_ := Aside0.mk (KeepBut.trans (by repeat (first | (with_reducible first | exact HK.out | apply KeepBut.set_ | apply keep_drewN | apply keep_drew | apply keep_alloc) | exact HK.out)) hk (.inl rfl)); have n1_ := Aside0.mk (hb); have n2_ := Aside0.mk (hi); clear HK; clear HB; clear HI0; have HK := n0_; have HB := n1_; have HI0 := n2_; clear n0_ n1_ n2_; (try clear hb); (try clear hb2); (try clear hk); (try clear hi)) | ((with_reducible refine gate_callee (f := 23) rfl ?_); refine goesL_ (some 10) rfl rfl Try.func23 (by kernel_rfl) rfl #[.pointer (some ⟨g, 0, none⟩), .int .i64 600000] rfl (by (try simp only [List.map_toArray, List.map_cons, List.map_nil]); first | done | rfl | (simp only [List.length_drop, List.length_take]; rfl)) ?_; (with_reducible refine (paygen_Deck_Next.calls g s0_0 t213 600000 t219 t220 w0 _ ?side1 ?side2 A10.out).mono ?_); (case side1 => repeat (first | (with_reducible first | exact HI0.out | apply IsS64.alloc | apply IsS64.drewN | apply IsS64.drew | apply IsS64.set_1) | exact HI0.out)); (case side2 => repeat (first | (with_reducible first | exact HB.out | apply below_alloc | apply pw_below_drewN | apply below_drew1 | refine below_set ?_ (IsS64.ge HI0.out)) | exact HB.out)); rintro e w12 ⟨rfl, hi, hb, hk⟩; refine ⟨_, rfl, ?_⟩; have n0_ := Aside0.mk (KeepBut.trans (by repeat (first | (with_reducible first | exact HK.out | apply KeepBut.set_ | apply keep_drewN | apply keep_drew | apply keep_alloc) | exact HK.out)) hk (.inl rfl)); have n1_ := Aside0.mk (hb); have n2_ := Aside0.mk (hi); clear HK; clear HB; clear HI0; have HK := n0_; have HB := n1_; have HI0 := n2_; clear n0_ n1_ n2_; (try clear hb); (try clear hb2); (try clear hk); (try clear hi)))
    go_ret
    exact ⟨by first | rfl | (simp [errW_none, errW_some] <;> rfl) | (simp [*, errW_none, errW_some] <;> rfl), by repeat (first | (with_reducible first | exact HI0.out | apply IsS64.alloc | apply IsS64.drewN | apply IsS64.drew | apply IsS64.set_1) | exact HI0.out), by repeat (first | (with_reducible first | exact HB.out | apply below_alloc | apply pw_below_drewN | apply below_drew1 | refine below_set ?_ (IsS64.ge HI0.out)) | exact HB.out), by repeat (first | (with_reducible first | exact HK.out | apply KeepBut.set_ | apply keep_drewN | apply keep_drew | apply keep_alloc) | exact HK.out)⟩

/-! ### payrollref32_Bare: function 56 -/
def payrollref32_Bare.f (a0 : Int) : Option (Bool) := if a0 = 6 then (some true) else (if a0 = 9 then (some true) else (some (a0 == 10)))
set_option maxHeartbeats 8000000 in
set_option maxRecDepth 100000 in
theorem payrollref32_Bare.calls (a0 : Int) (r : Bool) (w : World) (h : payrollref32_Bare.f a0 = some r) :
    Calls Try.prog 56 #[.int .i64 a0] w fun e w' => e = .returned (.bool r) ∧ Drawn0 w w' := by
  have H : (if a0 = 6 then (some true) else (if a0 = 9 then (some true) else (some (a0 == 10)))) = some r := h
  clear h
  by_cases c2 : a0 = 6
  · rw [if_pos c2] at H
    have c2b0 : (a0 == 6) = true := beq_iff_eq.mpr c2
    have c2b1 : (a0 != 6) = false := bne_eq_false_iff_eq.mpr c2
    clear c2
    obtain rfl := Option.some.inj H
    go_enter Try.func56, Try.ntmps56
    go_wp2
    go_ret
    exact ⟨by first | rfl | (simp; done) | (simp [*]; done), by repeat (first | exact Drawn0.refl _ | apply Drawn0.step)⟩
  · rw [if_neg c2] at H
    have c2b0 : (a0 == 6) = false := beq_eq_false_iff_ne.mpr c2
    have c2b1 : (a0 != 6) = true := bne_iff_ne.mpr c2
    by_cases c3 : a0 = 9
    · rw [if_pos c3] at H
      have c3b0 : (a0 == 9) = true := beq_iff_eq.mpr c3
      have c3b1 : (a0 != 9) = false := bne_eq_false_iff_eq.mpr c3
      clear c3
      obtain rfl := Option.some.inj H
      go_enter Try.func56, Try.ntmps56
      go_wp2
      go_ret
      exact ⟨by first | rfl | (simp; done) | (simp [*]; done), by repeat (first | exact Drawn0.refl _ | apply Drawn0.step)⟩
    · rw [if_neg c3] at H
      have c3b0 : (a0 == 9) = false := beq_eq_false_iff_ne.mpr c3
      have c3b1 : (a0 != 9) = true := bne_iff_ne.mpr c3
      obtain rfl := Option.some.inj H
      go_enter Try.func56, Try.ntmps56
      go_wp2
      go_ret
      exact ⟨by first | rfl | (simp; done) | (simp [*]; done), by repeat (first | exact Drawn0.refl _ | apply Drawn0.step)⟩

/-! ### paygen_Deck_Code: function 57 -/
def paygen_Deck_Code.f (s0_0 : List Int) (s0_1 : Int) : Option (ByteArray × Int) := (some (([(⟨#[98, 111, 110, 117, 115]⟩ : ByteArray), (⟨#[99, 97, 114]⟩ : ByteArray), (⟨#[110, 105, 103, 104, 116]⟩ : ByteArray), (⟨#[115, 97, 108, 97, 114, 121]⟩ : ByteArray), (⟨#[97]⟩ : ByteArray), (⟨#[98]⟩ : ByteArray), (⟨#[120, 49]⟩ : ByteArray), (⟨#[97, 98, 99, 100, 101, 102, 103, 104, 105, 106, 107, 108, 109, 110, 111, 112, 113, 114, 115, 116, 117, 118, 119, 120]⟩ : ByteArray)] : List ByteArray) : List ByteArray)).bind fun y221 => ((paygen_Deck_Next.f s0_0 s0_1 8).bind fun bt224 => (if 0 ≤ bt224.1 then (if bt224.1 < (y221.length : Int) then (some (rdOf ByteArray.empty y221 bt224.1, bt224.2)) else (none)) else (none)))
set_option maxHeartbeats 8000000 in
set_option maxRecDepth 100000 in
theorem paygen_Deck_Code.calls (g : Nat) (s0_0 : List Int) (s0_1 : Int) (r1 : ByteArray) (r2 : Int) (w0 w : World) (hI : IsS64 w0 w g s0_0 s0_1) (hB : Below w0.heap.size w0 w) (h : paygen_Deck_Code.f s0_0 s0_1 = some (r1, r2)) :
    Calls Try.prog 57 #[.pointer (some ⟨g, 0, none⟩)] w fun e w' => e = .returned (.string r1) ∧ IsS64 w0 w' g s0_0 r2 ∧ Below w0.heap.size w0 w' ∧ KeepBut w w' g none := by
  have HI0 := Aside0.mk hI
  have HK := Aside0.mk (KeepBut.refl w g none)
  have HL := Aside0.mk hB.size
  clear hI
  have HW0 := Aside0.mk hB.size
  have HB := Aside0.mk hB
  clear hB
  have H : ((some (([(⟨#[98, 111, 110, 117, 115]⟩ : ByteArray), (⟨#[99, 97, 114]⟩ : ByteArray), (⟨#[110, 105, 103, 104, 116]⟩ : ByteArray), (⟨#[115, 97, 108, 97, 114, 121]⟩ : ByteArray), (⟨#[97]⟩ : ByteArray), (⟨#[98]⟩ : ByteArray), (⟨#[120, 49]⟩ : ByteArray), (⟨#[97, 98, 99, 100, 101, 102, 103, 104, 105, 106, 107, 108, 109, 110, 111, 112, 113, 114, 115, 116, 117, 118, 119, 120]⟩ : ByteArray)] : List ByteArray) : List ByteArray)).bind fun y221 => ((paygen_Deck_Next.f s0_0 s0_1 8).bind fun bt224 => (if 0 ≤ bt224.1 then (if bt224.1 < (y221.length : Int) then (some (rdOf ByteArray.empty y221 bt224.1, bt224.2)) else (none)) else (none)))) = some (r1, r2) := h
  clear h
  obtain ⟨y221, hy221⟩ : ∃ y_ : List ByteArray, y_ = (([(⟨#[98, 111, 110, 117, 115]⟩ : ByteArray), (⟨#[99, 97, 114]⟩ : ByteArray), (⟨#[110, 105, 103, 104, 116]⟩ : ByteArray), (⟨#[115, 97, 108, 97, 114, 121]⟩ : ByteArray), (⟨#[97]⟩ : ByteArray), (⟨#[98]⟩ : ByteArray), (⟨#[120, 49]⟩ : ByteArray), (⟨#[97, 98, 99, 100, 101, 102, 103, 104, 105, 106, 107, 108, 109, 110, 111, 112, 113, 114, 115, 116, 117, 118, 119, 120]⟩ : ByteArray)] : List ByteArray)) := ⟨_, rfl⟩
  replace H : ((paygen_Deck_Next.f s0_0 s0_1 8).bind fun bt224 => (if 0 ≤ bt224.1 then (if bt224.1 < (y221.length : Int) then (some (rdOf ByteArray.empty y221 bt224.1, bt224.2)) else (none)) else (none))) = some (r1, r2) := by first | (rw [hy221]; with_reducible exact H) | (have H2_ := (Option.bind_some _ _).symm.trans H; rw [hy221]; with_reducible exact H2_) | (have H2_ := (Option.bind_some _ _).symm.trans H; with_reducible exact H2_) | with_reducible exact H | (rw [hy221]; exact H) | exact H
  have Ny221 := Aside0.mk hy221
  clear hy221
  replace H := Option.bind_eq_some_iff.mp H
  obtain ⟨⟨t224, t225⟩, A20, H⟩ := H
  replace H : (if 0 ≤ t224 then (if t224 < (y221.length : Int) then (some (rdOf ByteArray.empty y221 t224, t225)) else (none)) else (none)) = some (r1, r2) := H
  have A2 := Aside0.mk A20
  clear A20
  by_cases c3 : 0 ≤ t224
  · rw [if_pos c3] at H
    have c3b0 : decide (0 ≤ t224) = true := decide_eq_true c3
    clear c3
    by_cases c4 : t224 < (y221.length : Int)
    · rw [if_pos c4] at H
      have c4b0 : decide (t224 < (y221.length : Int)) = true := decide_eq_true c4
      clear c4
      simp only [Option.some.injEq, Prod.mk.injEq] at H
      obtain ⟨rfl, rfl⟩ := H
      go_enter Try.func57, Try.ntmps57
      go_wp2_with (first | ((with_reducible refine gate_dst (N := 3) rfl ?_); refine Kd.R_lit Kd.string _ 9 ?hg (N := 3) ?hd (xs := ([(⟨#[98, 111, 110, 117, 115]⟩ : ByteArray), (⟨#[99, 97, 114]⟩ : ByteArray), (⟨#[110, 105, 103, 104, 116]⟩ : ByteArray), (⟨#[115, 97, 108, 97, 114, 121]⟩ : ByteArray), (⟨#[97]⟩ : ByteArray), (⟨#[98]⟩ : ByteArray), (⟨#[120, 49]⟩ : ByteArray), (⟨#[97, 98, 99, 100, 101, 102, 103, 104, 105, 106, 107, 108, 109, 110, 111, 112, 113, 114, 115, 116, 117, 118, 119, 120]⟩ : ByteArray)] : List ByteArray)) (inner := [.string (⟨#[98, 111, 110, 117, 115]⟩ : ByteArray), .string (⟨#[99, 97, 114]⟩ : ByteArray), .string (⟨#[110, 105, 103, 104, 116]⟩ : ByteArray), .string (⟨#[115, 97, 108, 97, 114, 121]⟩ : ByteArray), .string (⟨#[97]⟩ : ByteArray), .string (⟨#[98]⟩ : ByteArray), .string (⟨#[120, 49]⟩ : ByteArray), .string (⟨#[97, 98, 99, 100, 101, 102, 103, 104, 105, 106, 107, 108, 109, 110, 111, 112, 113, 114, 115, 116, 117, 118, 119, 120]⟩ : ByteArray)]) (ok := fun _ => True) (okp := fun _ => True) ?hr ?hp (fun _ hk => hk) trivial (Below.refl _ _) (Nat.le_refl _) (by simp) ?_; (case hd => rfl); (case hg => rfl); (case hr => first | (go_simp; done) | (go_simp; rfl)); (case hp => exact (Reps.one (show Kd.M Kd.string _ _ _ (⟨#[98, 111, 110, 117, 115]⟩ : ByteArray) [.string (⟨#[98, 111, 110, 117, 115]⟩ : ByteArray)] from rfl) (Reps.one (show Kd.M Kd.string _ _ _ (⟨#[99, 97, 114]⟩ : ByteArray) [.string (⟨#[99, 97, 114]⟩ : ByteArray)] from rfl) (Reps.one (show Kd.M Kd.string _ _ _ (⟨#[110, 105, 103, 104, 116]⟩ : ByteArray) [.string (⟨#[110, 105, 103, 104, 116]⟩ : ByteArray)] from rfl) (Reps.one (show Kd.M Kd.string _ _ _ (⟨#[115, 97, 108, 97, 114, 121]⟩ : ByteArray) [.string (⟨#[115, 97, 108, 97, 114, 121]⟩ : ByteArray)] from rfl) (Reps.one (show Kd.M Kd.string _ _ _ (⟨#[97]⟩ : ByteArray) [.string (⟨#[97]⟩ : ByteArray)] from rfl) (Reps.one (show Kd.M Kd.string _ _ _ (⟨#[98]⟩ : ByteArray) [.string (⟨#[98]⟩ : ByteArray)] from rfl) (Reps.one (show Kd.M Kd.string _ _ _ (⟨#[120, 49]⟩ : ByteArray) [.string (⟨#[120, 49]⟩ : ByteArray)] from rfl) (Reps.one (show Kd.M Kd.string _ _ _ (⟨#[97, 98, 99, 100, 101, 102, 103, 104, 105, 106, 107, 108, 109, 110, 111, 112, 113, 114, 115, 116, 117, 118, 119, 120]⟩ : ByteArray) [.string (⟨#[97, 98, 99, 100, 101, 102, 103, 104, 105, 106, 107, 108, 109, 110, 111, 112, 113, 114, 115, 116, 117, 118, 119, 120]⟩ : ByteArray)] from rfl) (Reps.none _ _)))))))))); intro v222 w5 ho6 hb hg_ hnew_; clear hg_ hnew_; (first | rw [← Ny221.out] at ho6 | (simp only [Int.reduceToNat] at ho6; rw [← Ny221.out] at ho6)); have n0_ := Aside0.mk (Kd.R_lower ho6 (keep_size (w := w) (g := g) (row := none) (by repeat (first | (with_reducible first | exact HK.out | apply KeepBut.set_ | apply keep_drewN | apply keep_drew | apply keep_alloc) | exact HK.out)))); have n1_ := Aside0.mk (IsS64.below (by repeat (first | (with_reducible first | exact HI0.out | apply IsS64.alloc | apply IsS64.drewN | apply IsS64.drew | apply IsS64.set_1) | exact HI0.out)) hb); have n2_ := Aside0.mk (KeepBut.trans (by repeat (first | (with_reducible first | exact HK.out | apply KeepBut.set_ | apply keep_drewN | apply keep_drew | apply keep_alloc) | exact HK.out)) (KeepBut.of_below hb g none) (.inl rfl)); have n3_ := Aside0.mk (below_step (by repeat (first | (with_reducible first | exact HB.out | apply below_alloc | apply pw_below_drewN | apply below_drew1 | refine below_set ?_ (IsS64.ge HI0.out)) | exact HB.out)) hb); clear HI0; clear HK; clear HB; have HO223 := n0_; have HI0 := n1_; have HK := n2_; have HB := n3_; clear n0_ n1_ n2_ n3_; clear hb ho6) | ((with_reducible refine gate_callee (f := 23) rfl ?_); refine goesL_ (some 5) rfl rfl Try.func23 (by kernel_rfl) rfl #[.pointer (some ⟨g, 0, none⟩), .int .i64 8] rfl (by (try simp only [List.map_toArray, List.map_cons, List.map_nil]); first | done | rfl | (simp only [List.length_drop, List.length_take]; rfl)) ?_; (with_reducible refine (paygen_Deck_Next.calls g s0_0 s0_1 8 t224 t225 w0 _ ?side1 ?side2 A2.out).mono ?_); (case side1 => repeat (first | (with_reducible first | exact HI0.out | apply IsS64.alloc | apply IsS64.drewN | apply IsS64.drew | apply IsS64.set_1) | exact HI0.out)); (case side2 => repeat (first | (with_reducible first | exact HB.out | apply below_alloc | apply pw_below_drewN | apply below_drew1 | refine below_set ?_ (IsS64.ge HI0.out)) | exact HB.out)); rintro e w7 ⟨rfl, hi, hb, hk⟩; refine ⟨_, rfl, ?_⟩; have n0_ := Aside0.mk (Kd.R_mono (Kd.R_keep (IsS64.apart (show IsS64 w0 _ g s0_0 s0_1 from by repeat (first | (with_reducible first | exact HI0.out | apply IsS64.alloc | apply IsS64.drewN | apply IsS64.drew | apply IsS64.set_1) | exact HI0.out)) (by (with_reducible repeat (first | apply Kd.R_alloc | apply Kd.R_drewN | apply Kd.R_drew)); exact HO223.out) (by decide)) hk (fun _ h => h.2)) (fun _ h => h.1)); have n1_ := Aside0.mk (KeepBut.trans (by repeat (first | (with_reducible first | exact HK.out | apply KeepBut.set_ | apply keep_drewN | apply keep_drew | apply keep_alloc) | exact HK.out)) hk (.inl rfl)); have n2_ := Aside0.mk (hb); have n3_ := Aside0.mk (hi); clear HO223; clear HK; clear HB; clear HI0; have HO223 := n0_; have HK := n1_; have HB := n2_; have HI0 := n3_; clear n0_ n1_ n2_ n3_; (try clear hb); (try clear hb2); (try clear hk); (try clear hi); obtain ⟨Ao8, co8, eo8⟩ := Kd.R_slice HO223.out; subst eo8; have p226 : 0 ≤ (t224 : Int) := of_decide_eq_true (by first | (with_reducible assumption) | assumption); have q226 : t224 < (y221.length : Int) := of_decide_eq_true (by first | (with_reducible assumption) | assumption); obtain ⟨ad226, e226, hx226_0⟩ := Kd.at_string (Kd.R_reads' HO223.out).2.2 t224 p226 q226; cases e226; replace p226 := eq_true p226; replace q226 := eq_true q226))
      go_ret
      exact ⟨by first | rfl | (simp [errW_none, errW_some] <;> rfl) | (simp [*, errW_none, errW_some] <;> rfl), by repeat (first | (with_reducible first | exact HI0.out | apply IsS64.alloc | apply IsS64.drewN | apply IsS64.drew | apply IsS64.set_1) | exact HI0.out), by repeat (first | (with_reducible first | exact HB.out | apply below_alloc | apply pw_below_drewN | apply below_drew1 | refine below_set ?_ (IsS64.ge HI0.out)) | exact HB.out), by repeat (first | (with_reducible first | exact HK.out | apply KeepBut.set_ | apply keep_drewN | apply keep_drew | apply keep_alloc) | exact HK.out)⟩
    · rw [if_neg c4] at H
      exact absurd H (by simp)
  · rw [if_neg c3] at H
    exact absurd H (by simp)

/-! ### paygen_Deck_Line: function 44 -/
def paygen_Deck_Line.f (s0_0 : List Int) (s0_1 : Int) : Option (Int × ByteArray × Int × Int) := (paygen_Deck_Next.f s0_0 s0_1 10).bind fun bt228 => ((paygen_Deck_Small.f s0_0 bt228.2).bind fun bt230 => ((payrollref32_Bare.f (wrap64 (1 + bt228.1))).bind fun t233 => (if t233 = true then ((paygen_Deck_Next.f s0_0 bt230.2 3).bind fun bt234 => (if bt234.1 = 0 then (some (wrap64 (1 + bt228.1), (⟨#[]⟩ : ByteArray), wrap64 (-(wrap64 (1 + bt230.1))), bt234.2)) else (some (wrap64 (1 + bt228.1), (⟨#[]⟩ : ByteArray), wrap64 (1 + bt230.1), bt234.2)))) else ((paygen_Deck_Code.f s0_0 bt230.2).bind fun bt236 => ((paygen_Deck_Next.f s0_0 bt236.2 3).bind fun bt238 => (if bt238.1 = 0 then (some (wrap64 (1 + bt228.1), bt236.1, wrap64 (-(wrap64 (1 + bt230.1))), bt238.2)) else (some (wrap64 (1 + bt228.1), bt236.1, wrap64 (1 + bt230.1), bt238.2))))))))
set_option maxHeartbeats 8000000 in
set_option maxRecDepth 100000 in
theorem paygen_Deck_Line.calls (g : Nat) (s0_0 : List Int) (s0_1 : Int) (r1 : Int) (r2 : ByteArray) (r3 : Int) (r4 : Int) (w0 w : World) (hI : IsS64 w0 w g s0_0 s0_1) (hB : Below w0.heap.size w0 w) (h : paygen_Deck_Line.f s0_0 s0_1 = some (r1, r2, r3, r4)) :
    Calls Try.prog 44 #[.pointer (some ⟨g, 0, none⟩)] w fun e w' => e = .returned (.agg #[.int .i64 r1, .string r2, .int .i64 r3]) ∧ IsS64 w0 w' g s0_0 r4 ∧ Below w0.heap.size w0 w' ∧ KeepBut w w' g none := by
  have hu25 := Try.underlying25
  have HI0 := Aside0.mk hI
  have HK := Aside0.mk (KeepBut.refl w g none)
  have HL := Aside0.mk hB.size
  clear hI
  have HW0 := Aside0.mk hB.size
  have HB := Aside0.mk hB
  clear hB
  have H : ((paygen_Deck_Next.f s0_0 s0_1 10).bind fun bt228 => ((paygen_Deck_Small.f s0_0 bt228.2).bind fun bt230 => ((payrollref32_Bare.f (wrap64 (1 + bt228.1))).bind fun t233 => (if t233 = true then ((paygen_Deck_Next.f s0_0 bt230.2 3).bind fun bt234 => (if bt234.1 = 0 then (some (wrap64 (1 + bt228.1), (⟨#[]⟩ : ByteArray), wrap64 (-(wrap64 (1 + bt230.1))), bt234.2)) else (some (wrap64 (1 + bt228.1), (⟨#[]⟩ : ByteArray), wrap64 (1 + bt230.1), bt234.2)))) else ((paygen_Deck_Code.f s0_0 bt230.2).bind fun bt236 => ((paygen_Deck_Next.f s0_0 bt236.2 3).bind fun bt238 => (if bt238.1 = 0 then (some (wrap64 (1 + bt228.1), bt236.1, wrap64 (-(wrap64 (1 + bt230.1))), bt238.2)) else (some (wrap64 (1 + bt228.1), bt236.1, wrap64 (1 + bt230.1), bt238.2))))))))) = some (r1, r2, r3, r4) := h
  clear h
  replace H := Option.bind_eq_some_iff.mp H
  obtain ⟨⟨t228, t229⟩, A20, H⟩ := H
  replace H : ((paygen_Deck_Small.f s0_0 t229).bind fun bt230 => ((payrollref32_Bare.f (wrap64 (1 + t228))).bind fun t233 => (if t233 = true then ((paygen_Deck_Next.f s0_0 bt230.2 3).bind fun bt234 => (if bt234.1 = 0 then (some (wrap64 (1 + t228), (⟨#[]⟩ : ByteArray), wrap64 (-(wrap64 (1 + bt230.1))), bt234.2)) else (some (wrap64 (1 + t228), (⟨#[]⟩ : ByteArray), wrap64 (1 + bt230.1), bt234.2)))) else ((paygen_Deck_Code.f s0_0 bt230.2).bind fun bt236 => ((paygen_Deck_Next.f s0_0 bt236.2 3).bind fun bt238 => (if bt238.1 = 0 then (some (wrap64 (1 + t228), bt236.1, wrap64 (-(wrap64 (1 + bt230.1))), bt238.2)) else (some (wrap64 (1 + t228), bt236.1, wrap64 (1 + bt230.1), bt238.2)))))))) = some (r1, r2, r3, r4) := H
  have A2 := Aside0.mk A20
  clear A20
  replace H := Option.bind_eq_some_iff.mp H
  obtain ⟨⟨t230, t231⟩, A30, H⟩ := H
  replace H : ((payrollref32_Bare.f (wrap64 (1 + t228))).bind fun t233 => (if t233 = true then ((paygen_Deck_Next.f s0_0 t231 3).bind fun bt234 => (if bt234.1 = 0 then (some (wrap64 (1 + t228), (⟨#[]⟩ : ByteArray), wrap64 (-(wrap64 (1 + t230))), bt234.2)) else (some (wrap64 (1 + t228), (⟨#[]⟩ : ByteArray), wrap64 (1 + t230), bt234.2)))) else ((paygen_Deck_Code.f s0_0 t231).bind fun bt236 => ((paygen_Deck_Next.f s0_0 bt236.2 3).bind fun bt238 => (if bt238.1 = 0 then (some (wrap64 (1 + t228), bt236.1, wrap64 (-(wrap64 (1 + t230))), bt238.2)) else (some (wrap64 (1 + t228), bt236.1, wrap64 (1 + t230), bt238.2))))))) = some (r1, r2, r3, r4) := H
  have A3 := Aside0.mk A30
  clear A30
  replace H := Option.bind_eq_some_iff.mp H
  obtain ⟨t233, A40, H⟩ := H
  replace H : (if t233 = true then ((paygen_Deck_Next.f s0_0 t231 3).bind fun bt234 => (if bt234.1 = 0 then (some (wrap64 (1 + t228), (⟨#[]⟩ : ByteArray), wrap64 (-(wrap64 (1 + t230))), bt234.2)) else (some (wrap64 (1 + t228), (⟨#[]⟩ : ByteArray), wrap64 (1 + t230), bt234.2)))) else ((paygen_Deck_Code.f s0_0 t231).bind fun bt236 => ((paygen_Deck_Next.f s0_0 bt236.2 3).bind fun bt238 => (if bt238.1 = 0 then (some (wrap64 (1 + t228), bt236.1, wrap64 (-(wrap64 (1 + t230))), bt238.2)) else (some (wrap64 (1 + t228), bt236.1, wrap64 (1 + t230), bt238.2)))))) = some (r1, r2, r3, r4) := H
  have A4 := Aside0.mk A40
  clear A40
  by_cases c5 : t233 = true
  · subst c5
    have H1 : ((paygen_Deck_Next.f s0_0 t231 3).bind fun bt234 => (if bt234.1 = 0 then (some (wrap64 (1 + t228), (⟨#[]⟩ : ByteArray), wrap64 (-(wrap64 (1 + t230))), bt234.2)) else (some (wrap64 (1 + t228), (⟨#[]⟩ : ByteArray), wrap64 (1 + t230), bt234.2)))) = some (r1, r2, r3, r4) := by rw [if_pos rfl] at H; exact H
    clear H
    have H := H1
    clear H1
    replace H := Option.bind_eq_some_iff.mp H
    obtain ⟨⟨t234, t235⟩, A60, H⟩ := H
    replace H : (if t234 = 0 then (some (wrap64 (1 + t228), (⟨#[]⟩ : ByteArray), wrap64 (-(wrap64 (1 + t230))), t235)) else (some (wrap64 (1 + t228), (⟨#[]⟩ : ByteArray), wrap64 (1 + t230), t235))) = some (r1, r2, r3, r4) := H
    have A6 := Aside0.mk A60
    clear A60
    by_cases c7 : t234 = 0
    · rw [if_pos c7] at H
      have c7b0 : (t234 == 0) = true := beq_iff_eq.mpr c7
      have c7b1 : (t234 != 0) = false := bne_eq_false_iff_eq.mpr c7
      clear c7
      simp only [Option.some.injEq, Prod.mk.injEq] at H
      obtain ⟨rfl, rfl, rfl, rfl⟩ := H
      go_enter Try.func44, Try.ntmps44
      go_wp2_with (first | ((with_reducible refine gate_dst (N := 2) rfl ?_); refine box_event ?hg (N := 2) ?hd (cs := #[.int .i64 0, .string (⟨#[]⟩ : ByteArray), .int .i64 0]) (t := 25) ?hr ?_; (case hd => rfl); (case hg => rfl); (case hr => first | (go_simp; done) | (go_simp; rfl)); intro gb227 hg w8 hbox hb; have n0_ := Aside0.mk (IsS64.below (by repeat (first | (with_reducible first | exact HI0.out | apply IsS64.alloc | apply IsS64.drewN | apply IsS64.drew | apply IsS64.set_1) | exact HI0.out)) hb); have n1_ := Aside0.mk (KeepBut.trans (by repeat (first | (with_reducible first | exact HK.out | apply KeepBut.set_ | apply keep_drewN | apply keep_drew | apply keep_alloc) | exact HK.out)) (KeepBut.of_below hb g none) (.inl rfl)); have n2_ := Aside0.mk (below_step (by repeat (first | (with_reducible first | exact HB.out | apply below_alloc | apply pw_below_drewN | apply below_drew1 | refine below_set ?_ (IsS64.ge HI0.out)) | exact HB.out)) hb); have n3_ := Aside0.mk (hbox); have n4_ := Aside0.mk ((by rw [hg]; exact (keep_size (w := w) (g := g) (row := none) (by repeat (first | (with_reducible first | exact HK.out | apply KeepBut.set_ | apply keep_drewN | apply keep_drew | apply keep_alloc) | exact HK.out))) : w.heap.size ≤ gb227)); have n5_ := Aside0.mk ((Nat.le_trans HW0.out (by rw [hg]; exact (keep_size (w := w) (g := g) (row := none) (by repeat (first | (with_reducible first | exact HK.out | apply KeepBut.set_ | apply keep_drewN | apply keep_drew | apply keep_alloc) | exact HK.out))) : w.heap.size ≤ gb227) : w0.heap.size ≤ gb227)); have n6_ := Aside0.mk ((by rw [hg]; exact Nat.ne_of_lt (IsS64.lt (show IsS64 w0 _ g s0_0 s0_1 from by repeat (first | (with_reducible first | exact HI0.out | apply IsS64.alloc | apply IsS64.drewN | apply IsS64.drew | apply IsS64.set_1) | exact HI0.out))) : g ≠ gb227)); have n7_ := Aside0.mk ((by rw [hg]; exact Nat.ne_of_gt (IsS64.lt (show IsS64 w0 _ g s0_0 s0_1 from by repeat (first | (with_reducible first | exact HI0.out | apply IsS64.alloc | apply IsS64.drewN | apply IsS64.drew | apply IsS64.set_1) | exact HI0.out))) : gb227 ≠ g)); clear HI0; clear HK; clear HB; have HI0 := n0_; have HK := n1_; have HB := n2_; have BK227 := n3_; have GW227 := n4_; have GE227 := n5_; have NB0_227 := n6_; have NB227_0 := n7_; clear n0_ n1_ n2_ n3_ n4_ n5_ n6_ n7_; clear hb hbox hg) | ((with_reducible refine gate_callee (f := 23) rfl ?_); refine goesL_ (some 5) rfl rfl Try.func23 (by kernel_rfl) rfl #[.pointer (some ⟨g, 0, none⟩), .int .i64 10] rfl (by (try simp only [List.map_toArray, List.map_cons, List.map_nil]); first | done | rfl | (simp only [List.length_drop, List.length_take]; rfl)) ?_; (with_reducible refine (paygen_Deck_Next.calls g s0_0 s0_1 10 t228 t229 w0 _ ?side1 ?side2 A2.out).mono ?_); (case side1 => repeat (first | (with_reducible first | exact HI0.out | apply IsS64.alloc | apply IsS64.drewN | apply IsS64.drew | apply IsS64.set_1 | refine IsS64.far ?_ NB0_227.out _) | exact HI0.out)); (case side2 => repeat (first | (with_reducible first | exact HB.out | apply below_alloc | apply pw_below_drewN | apply below_drew1 | refine below_set ?_ (IsS64.ge HI0.out) | refine below_set ?_ GE227.out) | exact HB.out)); rintro e w9 ⟨rfl, hi, hb, hk⟩; refine ⟨_, rfl, ?_⟩; have n0_ := Aside0.mk (KeepBut.blk hk (g' := gb227) (o := .cells #[.int .i64 0, .string (⟨#[]⟩ : ByteArray), .int .i64 0] 25 (0, 0)) (by (with_reducible repeat (first | refine blk_drewN ?_ _ | refine blk_drew ?_ | refine blk_alloc ?_ _)); exact BK227.out) NB227_0.out (by simp)); have n1_ := Aside0.mk (KeepBut.trans (by repeat (first | (with_reducible first | exact HK.out | apply KeepBut.set_ | apply keep_drewN | apply keep_drew | apply keep_alloc | refine keep_far ?_ GW227.out _) | exact HK.out)) hk (.inl rfl)); have n2_ := Aside0.mk (hb); have n3_ := Aside0.mk (hi); clear BK227; clear HK; clear HB; clear HI0; have BK227 := n0_; have HK := n1_; have HB := n2_; have HI0 := n3_; clear n0_ n1_ n2_ n3_; (try clear hb); (try clear hb2); (try clear hk); (try clear hi)) | ((with_reducible refine gate_callee (f := 55) rfl ?_); refine goesL_ (some 8) rfl rfl Try.func55 (by kernel_rfl) rfl #[.pointer (some ⟨g, 0, none⟩)] rfl (by (try simp only [List.map_toArray, List.map_cons, List.map_nil]); first | done | rfl | (simp only [List.length_drop, List.length_take]; rfl)) ?_; (with_reducible refine (paygen_Deck_Small.calls g s0_0 t229 t230 t231 w0 _ ?side1 ?side2 A3.out).mono ?_); (case side1 => repeat (first | (with_reducible first | exact HI0.out | apply IsS64.alloc | apply IsS64.drewN | apply IsS64.drew | apply IsS64.set_1 | refine IsS64.far ?_ NB0_227.out _) | exact HI0.out)); (case side2 => repeat (first | (with_reducible first | exact HB.out | apply below_alloc | apply pw_below_drewN | apply below_drew1 | refine below_set ?_ (IsS64.ge HI0.out) | refine below_set ?_ GE227.out) | exact HB.out)); rintro e w10 ⟨rfl, hi, hb, hk⟩; refine ⟨_, rfl, ?_⟩; have n0_ := Aside0.mk (KeepBut.blk hk (g' := gb227) (o := .cells #[.int .i64 0, .string (⟨#[]⟩ : ByteArray), .int .i64 0] 25 (0, 0)) (by (with_reducible repeat (first | refine blk_drewN ?_ _ | refine blk_drew ?_ | refine blk_alloc ?_ _)); exact BK227.out) NB227_0.out (by simp)); have n1_ := Aside0.mk (KeepBut.trans (by repeat (first | (with_reducible first | exact HK.out | apply KeepBut.set_ | apply keep_drewN | apply keep_drew | apply keep_alloc | refine keep_far ?_ GW227.out _) | exact HK.out)) hk (.inl rfl)); have n2_ := Aside0.mk (hb); have n3_ := Aside0.mk (hi); clear BK227; clear HK; clear HB; clear HI0; have BK227 := n0_; have HK := n1_; have HB := n2_; have HI0 := n3_; clear n0_ n1_ n2_ n3_; (try clear hb); (try clear hb2); (try clear hk); (try clear hi)) | ((with_reducible refine gate_dst (N := 3) rfl ?_); refine box_event ?hg (N := 3) ?hd (cs := #[.int .i64 0, .string (⟨#[]⟩ : ByteArray), .int .i64 0]) (t := 25) ?hr ?_; (case hd => rfl); (case hg => rfl); (case hr => first | (go_simp; done) | (go_simp; rfl)); intro gb232 hg w11 hbox hb; have n0_ := Aside0.mk (IsS64.below (by repeat (first | (with_reducible first | exact HI0.out | apply IsS64.alloc | apply IsS64.drewN | apply IsS64.drew | apply IsS64.set_1 | refine IsS64.far ?_ NB0_227.out _) | exact HI0.out)) hb); have n1_ := Aside0.mk (blk_below (g := gb227) (o := .cells #[.int .i64 0, .string (⟨#[]⟩ : ByteArray), .int .i64 0] 25 (0, 0)) (by (with_reducible repeat (first | refine blk_drewN ?_ _ | refine blk_drew ?_ | refine blk_alloc ?_ _)); exact BK227.out) hb); have n2_ := Aside0.mk (KeepBut.trans (by repeat (first | (with_reducible first | exact HK.out | apply KeepBut.set_ | apply keep_drewN | apply keep_drew | apply keep_alloc | refine keep_far ?_ GW227.out _) | exact HK.out)) (KeepBut.of_below hb g none) (.inl rfl)); have n3_ := Aside0.mk (below_step (by repeat (first | (with_reducible first | exact HB.out | apply below_alloc | apply pw_below_drewN | apply below_drew1 | refine below_set ?_ (IsS64.ge HI0.out) | refine below_set ?_ GE227.out) | exact HB.out)) hb); have n4_ := Aside0.mk (hbox); have n5_ := Aside0.mk ((by rw [hg]; exact (keep_size (w := w) (g := g) (row := none) (by repeat (first | (with_reducible first | exact HK.out | apply KeepBut.set_ | apply keep_drewN | apply keep_drew | apply keep_alloc | refine keep_far ?_ GW227.out _) | exact HK.out))) : w.heap.size ≤ gb232)); have n6_ := Aside0.mk ((Nat.le_trans HW0.out (by rw [hg]; exact (keep_size (w := w) (g := g) (row := none) (by repeat (first | (with_reducible first | exact HK.out | apply KeepBut.set_ | apply keep_drewN | apply keep_drew | apply keep_alloc | refine keep_far ?_ GW227.out _) | exact HK.out))) : w.heap.size ≤ gb232) : w0.heap.size ≤ gb232)); have n7_ := Aside0.mk ((by rw [hg]; exact Nat.ne_of_lt (blk_lt (g := gb227) (o := .cells #[.int .i64 0, .string (⟨#[]⟩ : ByteArray), .int .i64 0] 25 (0, 0)) (by (with_reducible repeat (first | refine blk_drewN ?_ _ | refine blk_drew ?_ | refine blk_alloc ?_ _)); exact BK227.out)) : gb227 ≠ gb232)); have n8_ := Aside0.mk ((by rw [hg]; exact Nat.ne_of_gt (blk_lt (g := gb227) (o := .cells #[.int .i64 0, .string (⟨#[]⟩ : ByteArray), .int .i64 0] 25 (0, 0)) (by (with_reducible repeat (first | refine blk_drewN ?_ _ | refine blk_drew ?_ | refine blk_alloc ?_ _)); exact BK227.out)) : gb232 ≠ gb227)); have n9_ := Aside0.mk ((by rw [hg]; exact Nat.ne_of_lt (IsS64.lt (show IsS64 w0 _ g s0_0 t231 from by repeat (first | (with_reducible first | exact HI0.out | apply IsS64.alloc | apply IsS64.drewN | apply IsS64.drew | apply IsS64.set_1 | refine IsS64.far ?_ NB0_227.out _) | exact HI0.out))) : g ≠ gb232)); have n10_ := Aside0.mk ((by rw [hg]; exact Nat.ne_of_gt (IsS64.lt (show IsS64 w0 _ g s0_0 t231 from by repeat (first | (with_reducible first | exact HI0.out | apply IsS64.alloc | apply IsS64.drewN | apply IsS64.drew | apply IsS64.set_1 | refine IsS64.far ?_ NB0_227.out _) | exact HI0.out))) : gb232 ≠ g)); clear HI0; clear BK227; clear HK; clear HB; have HI0 := n0_; have BK227 := n1_; have HK := n2_; have HB := n3_; have BK232 := n4_; have GW232 := n5_; have GE232 := n6_; have NB227_232 := n7_; have NB232_227 := n8_; have NB0_232 := n9_; have NB232_0 := n10_; clear n0_ n1_ n2_ n3_ n4_ n5_ n6_ n7_ n8_ n9_ n10_; clear hb hbox hg; have hnb12 := NB232_227.out; have hnc12 := NB227_232.out; have hnb13 := NB232_0.out; have hnc13 := NB0_232.out; have hcz14_0 : w11.cell? ⟨gb232, 0, none⟩ = some (.int .i64 0) := (blk_cell BK232.out 0).trans rfl; have hcz14_1 : w11.cell? ⟨gb232, 1, none⟩ = some (.string (⟨#[]⟩ : ByteArray)) := (blk_cell BK232.out 1).trans rfl; have hcz14_2 : w11.cell? ⟨gb232, 2, none⟩ = some (.int .i64 0) := (blk_cell BK232.out 2).trans rfl; have hfz14_0 := blk_frozen BK232.out 0; have hfz14_1 := blk_frozen BK232.out 1; have hfz14_2 := blk_frozen BK232.out 2) | ((with_reducible refine gate_callee (f := 56) rfl ?_); refine goesL_ (some 13) rfl rfl Try.func56 (by kernel_rfl) rfl #[.int .i64 (wrap64 (1 + t228))] rfl (by (try simp only [List.map_toArray, List.map_cons, List.map_nil]); first | done | rfl | (simp only [List.length_drop, List.length_take]; rfl)) ?_; (with_reducible refine (payrollref32_Bare.calls (wrap64 (1 + t228)) true _ A4.out).mono ?_); rintro e w' ⟨rfl, ⟨nd, rfl⟩⟩; refine ⟨_, rfl, ?_⟩) | ((with_reducible refine gate_callee (f := 23) rfl ?_); refine goesL_ (some 19) rfl rfl Try.func23 (by kernel_rfl) rfl #[.pointer (some ⟨g, 0, none⟩), .int .i64 3] rfl (by (try simp only [List.map_toArray, List.map_cons, List.map_nil]); first | done | rfl | (simp only [List.length_drop, List.length_take]; rfl)) ?_; (with_reducible refine (paygen_Deck_Next.calls g s0_0 t231 3 t234 t235 w0 _ ?side1 ?side2 A6.out).mono ?_); (case side1 => repeat (first | (with_reducible first | exact HI0.out | apply IsS64.alloc | apply IsS64.drewN | apply IsS64.drew | apply IsS64.set_1 | refine IsS64.far ?_ NB0_227.out _ | refine IsS64.far ?_ NB0_232.out _) | exact HI0.out)); (case side2 => repeat (first | (with_reducible first | exact HB.out | apply below_alloc | apply pw_below_drewN | apply below_drew1 | refine below_set ?_ (IsS64.ge HI0.out) | refine below_set ?_ GE227.out | refine below_set ?_ GE232.out) | exact HB.out)); rintro e w15 ⟨rfl, hi, hb, hk⟩; refine ⟨_, rfl, ?_⟩; have n0_ := Aside0.mk (KeepBut.blk hk (g' := gb227) (o := .cells #[.int .i64 0, .string (⟨#[]⟩ : ByteArray), .int .i64 0] 25 (0, 0)) (by (with_reducible repeat (first | refine blk_drewN ?_ _ | refine blk_drew ?_ | refine blk_alloc ?_ _)); refine blk_far ?_ NB227_232.out _; (with_reducible repeat (first | refine blk_drewN ?_ _ | refine blk_drew ?_ | refine blk_alloc ?_ _)); refine blk_far ?_ NB227_232.out _; (with_reducible repeat (first | refine blk_drewN ?_ _ | refine blk_drew ?_ | refine blk_alloc ?_ _)); refine blk_far ?_ NB227_232.out _; (with_reducible repeat (first | refine blk_drewN ?_ _ | refine blk_drew ?_ | refine blk_alloc ?_ _)); exact BK227.out) NB227_0.out (by simp)); have n1_ := Aside0.mk (KeepBut.blk hk (g' := gb232) (o := .cells #[.int .i64 (wrap64 (1 + t228)), .string (⟨#[]⟩ : ByteArray), .int .i64 (wrap64 (1 + t230))] 25 (0, 0)) (by (with_reducible repeat (first | refine blk_drewN ?_ _ | refine blk_drew ?_ | refine blk_alloc ?_ _)); refine blk_put (cs := #[.int .i64 (wrap64 (1 + t228)), .string (⟨#[]⟩ : ByteArray), .int .i64 0]) ?_ 2 _ rfl; (with_reducible repeat (first | refine blk_drewN ?_ _ | refine blk_drew ?_ | refine blk_alloc ?_ _)); refine blk_put (cs := #[.int .i64 (wrap64 (1 + t228)), .string (⟨#[]⟩ : ByteArray), .int .i64 0]) ?_ 1 _ rfl; (with_reducible repeat (first | refine blk_drewN ?_ _ | refine blk_drew ?_ | refine blk_alloc ?_ _)); refine blk_put (cs := #[.int .i64 0, .string (⟨#[]⟩ : ByteArray), .int .i64 0]) ?_ 0 _ rfl; (with_reducible repeat (first | refine blk_drewN ?_ _ | refine blk_drew ?_ | refine blk_alloc ?_ _)); exact BK232.out) NB232_0.out (by simp)); have n2_ := Aside0.mk (KeepBut.trans (by repeat (first | (with_reducible first | exact HK.out | apply KeepBut.set_ | apply keep_drewN | apply keep_drew | apply keep_alloc | refine keep_far ?_ GW227.out _ | refine keep_far ?_ GW232.out _) | exact HK.out)) hk (.inl rfl)); have n3_ := Aside0.mk (hb); have n4_ := Aside0.mk (hi); clear BK227; clear BK232; clear HK; clear HB; clear HI0; have BK227 := n0_; have BK232 := n1_; have HK := n2_; have HB := n3_; have HI0 := n4_; clear n0_ n1_ n2_ n3_ n4_; (try clear hb); (try clear hb2); (try clear hk); (try clear hi); have hcz16_0 : w15.cell? ⟨gb232, 0, none⟩ = some (.int .i64 (wrap64 (1 + t228))) := (blk_cell BK232.out 0).trans rfl; have hcz16_1 : w15.cell? ⟨gb232, 1, none⟩ = some (.string (⟨#[]⟩ : ByteArray)) := (blk_cell BK232.out 1).trans rfl; have hcz16_2 : w15.cell? ⟨gb232, 2, none⟩ = some (.int .i64 (wrap64 (1 + t230))) := (blk_cell BK232.out 2).trans rfl; have hfz16_0 := blk_frozen BK232.out 0; have hfz16_1 := blk_frozen BK232.out 1; have hfz16_2 := blk_frozen BK232.out 2; have hnb17 := NB227_0.out; have hnc17 := NB0_227.out; have hcz18_0 : w15.cell? ⟨gb227, 0, none⟩ = some (.int .i64 0) := (blk_cell BK227.out 0).trans rfl; have hcz18_1 : w15.cell? ⟨gb227, 1, none⟩ = some (.string (⟨#[]⟩ : ByteArray)) := (blk_cell BK227.out 1).trans rfl; have hcz18_2 : w15.cell? ⟨gb227, 2, none⟩ = some (.int .i64 0) := (blk_cell BK227.out 2).trans rfl; have hfz18_0 := blk_frozen BK227.out 0; have hfz18_1 := blk_frozen BK227.out 1; have hfz18_2 := blk_frozen BK227.out 2))
      refine bodyPost_ret (results_cell_row rfl _ _ gb227 25 #[.int .i64 (wrap64 (1 + t228)), .string (⟨#[]⟩ : ByteArray), .int .i64 (wrap64 (-(wrap64 (1 + t230))))] (0, 0) _ rfl (by (with_reducible repeat (first | refine blk_drewN ?_ _ | refine blk_drew ?_ | refine blk_alloc ?_ _)); refine blk_put (cs := #[.int .i64 (wrap64 (1 + t228)), .string (⟨#[]⟩ : ByteArray), .int .i64 0]) ?_ 2 _ rfl; (with_reducible repeat (first | refine blk_drewN ?_ _ | refine blk_drew ?_ | refine blk_alloc ?_ _)); refine blk_put (cs := #[.int .i64 (wrap64 (1 + t228)), .string (⟨#[]⟩ : ByteArray), .int .i64 0]) ?_ 1 _ rfl; (with_reducible repeat (first | refine blk_drewN ?_ _ | refine blk_drew ?_ | refine blk_alloc ?_ _)); refine blk_put (cs := #[.int .i64 0, .string (⟨#[]⟩ : ByteArray), .int .i64 0]) ?_ 0 _ rfl; (with_reducible repeat (first | refine blk_drewN ?_ _ | refine blk_drew ?_ | refine blk_alloc ?_ _)); refine blk_far ?_ NB227_232.out _; (with_reducible repeat (first | refine blk_drewN ?_ _ | refine blk_drew ?_ | refine blk_alloc ?_ _)); exact BK227.out) Try.underlying25 rfl (by kernel_rfl)) rfl ?_
      exact ⟨by first | rfl | (simp [errW_none, errW_some] <;> rfl) | (simp [*, errW_none, errW_some] <;> rfl), by repeat (first | (with_reducible first | exact HI0.out | apply IsS64.alloc | apply IsS64.drewN | apply IsS64.drew | apply IsS64.set_1 | refine IsS64.far ?_ NB0_227.out _ | refine IsS64.far ?_ NB0_232.out _) | exact HI0.out), by repeat (first | (with_reducible first | exact HB.out | apply below_alloc | apply pw_below_drewN | apply below_drew1 | refine below_set ?_ (IsS64.ge HI0.out) | refine below_set ?_ GE227.out | refine below_set ?_ GE232.out) | exact HB.out), by repeat (first | (with_reducible first | exact HK.out | apply KeepBut.set_ | apply keep_drewN | apply keep_drew | apply keep_alloc | refine keep_far ?_ GW227.out _ | refine keep_far ?_ GW232.out _) | exact HK.out)⟩
    · rw [if_neg c7] at H
      have c7b0 : (t234 == 0) = false := beq_eq_false_iff_ne.mpr c7
      have c7b1 : (t234 != 0) = true := bne_iff_ne.mpr c7
      simp only [Option.some.injEq, Prod.mk.injEq] at H
      obtain ⟨rfl, rfl, rfl, rfl⟩ := H
      go_enter Try.func44, Try.ntmps44
      go_wp2_with (first | ((with_reducible refine gate_dst (N := 2) rfl ?_); refine box_event ?hg (N := 2) ?hd (cs := #[.int .i64 0, .string (⟨#[]⟩ : ByteArray), .int .i64 0]) (t := 25) ?hr ?_; (case hd => rfl); (case hg => rfl); (case hr => first | (go_simp; done) | (go_simp; rfl)); intro gb227 hg w19 hbox hb; have n0_ := Aside0.mk (IsS64.below (by repeat (first | (with_reducible first | exact HI0.out | apply IsS64.alloc | apply IsS64.drewN | apply IsS64.drew | apply IsS64.set_1) | exact HI0.out)) hb); have n1_ := Aside0.mk (KeepBut.trans (by repeat (first | (with_reducible first | exact HK.out | apply KeepBut.set_ | apply keep_drewN | apply keep_drew | apply keep_alloc) | exact HK.out)) (KeepBut.of_below hb g none) (.inl rfl)); have n2_ := Aside0.mk (below_step (by repeat (first | (with_reducible first | exact HB.out | apply below_alloc | apply pw_below_drewN | apply below_drew1 | refine below_set ?_ (IsS64.ge HI0.out)) | exact HB.out)) hb); have n3_ := Aside0.mk (hbox); have n4_ := Aside0.mk ((by rw [hg]; exact (keep_size (w := w) (g := g) (row := none) (by repeat (first | (with_reducible first | exact HK.out | apply KeepBut.set_ | apply keep_drewN | apply keep_drew | apply keep_alloc) | exact HK.out))) : w.heap.size ≤ gb227)); have n5_ := Aside0.mk ((Nat.le_trans HW0.out (by rw [hg]; exact (keep_size (w := w) (g := g) (row := none) (by repeat (first | (with_reducible first | exact HK.out | apply KeepBut.set_ | apply keep_drewN | apply keep_drew | apply keep_alloc) | exact HK.out))) : w.heap.size ≤ gb227) : w0.heap.size ≤ gb227)); have n6_ := Aside0.mk ((by rw [hg]; exact Nat.ne_of_lt (IsS64.lt (show IsS64 w0 _ g s0_0 s0_1 from by repeat (first | (with_reducible first | exact HI0.out | apply IsS64.alloc | apply IsS64.drewN | apply IsS64.drew | apply IsS64.set_1) | exact HI0.out))) : g ≠ gb227)); have n7_ := Aside0.mk ((by rw [hg]; exact Nat.ne_of_gt (IsS64.lt (show IsS64 w0 _ g s0_0 s0_1 from by repeat (first | (with_reducible first | exact HI0.out | apply IsS64.alloc | apply IsS64.drewN | apply IsS64.drew | apply IsS64.set_1) | exact HI0.out))) : gb227 ≠ g)); clear HI0; clear HK; clear HB; have HI0 := n0_; have HK := n1_; have HB := n2_; have BK227 := n3_; have GW227 := n4_; have GE227 := n5_; have NB0_227 := n6_; have NB227_0 := n7_; clear n0_ n1_ n2_ n3_ n4_ n5_ n6_ n7_; clear hb hbox hg) | ((with_reducible refine gate_callee (f := 23) rfl ?_); refine goesL_ (some 5) rfl rfl Try.func23 (by kernel_rfl) rfl #[.pointer (some ⟨g, 0, none⟩), .int .i64 10] rfl (by (try simp only [List.map_toArray, List.map_cons, List.map_nil]); first | done | rfl | (simp only [List.length_drop, List.length_take]; rfl)) ?_; (with_reducible refine (paygen_Deck_Next.calls g s0_0 s0_1 10 t228 t229 w0 _ ?side1 ?side2 A2.out).mono ?_); (case side1 => repeat (first | (with_reducible first | exact HI0.out | apply IsS64.alloc | apply IsS64.drewN | apply IsS64.drew | apply IsS64.set_1 | refine IsS64.far ?_ NB0_227.out _) | exact HI0.out)); (case side2 => repeat (first | (with_reducible first | exact HB.out | apply below_alloc | apply pw_below_drewN | apply below_drew1 | refine below_set ?_ (IsS64.ge HI0.out) | refine below_set ?_ GE227.out) | exact HB.out)); rintro e w20 ⟨rfl, hi, hb, hk⟩; refine ⟨_, rfl, ?_⟩; have n0_ := Aside0.mk (KeepBut.blk hk (g' := gb227) (o := .cells #[.int .i64 0, .string (⟨#[]⟩ : ByteArray), .int .i64 0] 25 (0, 0)) (by (with_reducible repeat (first | refine blk_drewN ?_ _ | refine blk_drew ?_ | refine blk_alloc ?_ _)); exact BK227.out) NB227_0.out (by simp)); have n1_ := Aside0.mk (KeepBut.trans (by repeat (first | (with_reducible first | exact HK.out | apply KeepBut.set_ | apply keep_drewN | apply keep_drew | apply keep_alloc | refine keep_far ?_ GW227.out _) | exact HK.out)) hk (.inl rfl)); have n2_ := Aside0.mk (hb); have n3_ := Aside0.mk (hi); clear BK227; clear HK; clear HB; clear HI0; have BK227 := n0_; have HK := n1_; have HB := n2_; have HI0 := n3_; clear n0_ n1_ n2_ n3_; (try clear hb); (try clear hb2); (try clear hk); (try clear hi)) | ((with_reducible refine gate_callee (f := 55) rfl ?_); refine goesL_ (some 8) rfl rfl Try.func55 (by kernel_rfl) rfl #[.pointer (some ⟨g, 0, none⟩)] rfl (by (try simp only [List.map_toArray, List.map_cons, List.map_nil]); first | done | rfl | (simp only [List.length_drop, List.length_take]; rfl)) ?_; (with_reducible refine (paygen_Deck_Small.calls g s0_0 t229 t230 t231 w0 _ ?side1 ?side2 A3.out).mono ?_); (case side1 => repeat (first | (with_reducible first | exact HI0.out | apply IsS64.alloc | apply IsS64.drewN | apply IsS64.drew | apply IsS64.set_1 | refine IsS64.far ?_ NB0_227.out _) | exact HI0.out)); (case side2 => repeat (first | (with_reducible first | exact HB.out | apply below_alloc | apply pw_below_drewN | apply below_drew1 | refine below_set ?_ (IsS64.ge HI0.out) | refine below_set ?_ GE227.out) | exact HB.out)); rintro e w21 ⟨rfl, hi, hb, hk⟩; refine ⟨_, rfl, ?_⟩; have n0_ := Aside0.mk (KeepBut.blk hk (g' := gb227) (o := .cells #[.int .i64 0, .string (⟨#[]⟩ : ByteArray), .int .i64 0] 25 (0, 0)) (by (with_reducible repeat (first | refine blk_drewN ?_ _ | refine blk_drew ?_ | refine blk_alloc ?_ _)); exact BK227.out) NB227_0.out (by simp)); have n1_ := Aside0.mk (KeepBut.trans (by repeat (first | (with_reducible first | exact HK.out | apply KeepBut.set_ | apply keep_drewN | apply keep_drew | apply keep_alloc | refine keep_far ?_ GW227.out _) | exact HK.out)) hk (.inl rfl)); have n2_ := Aside0.mk (hb); have n3_ := Aside0.mk (hi); clear BK227; clear HK; clear HB; clear HI0; have BK227 := n0_; have HK := n1_; have HB := n2_; have HI0 := n3_; clear n0_ n1_ n2_ n3_; (try clear hb); (try clear hb2); (try clear hk); (try clear hi)) | ((with_reducible refine gate_dst (N := 3) rfl ?_); refine box_event ?hg (N := 3) ?hd (cs := #[.int .i64 0, .string (⟨#[]⟩ : ByteArray), .int .i64 0]) (t := 25) ?hr ?_; (case hd => rfl); (case hg => rfl); (case hr => first | (go_simp; done) | (go_simp; rfl)); intro gb232 hg w22 hbox hb; have n0_ := Aside0.mk (IsS64.below (by repeat (first | (with_reducible first | exact HI0.out | apply IsS64.alloc | apply IsS64.drewN | apply IsS64.drew | apply IsS64.set_1 | refine IsS64.far ?_ NB0_227.out _) | exact HI0.out)) hb); have n1_ := Aside0.mk (blk_below (g := gb227) (o := .cells #[.int .i64 0, .string (⟨#[]⟩ : ByteArray), .int .i64 0] 25 (0, 0)) (by (with_reducible repeat (first | refine blk_drewN ?_ _ | refine blk_drew ?_ | refine blk_alloc ?_ _)); exact BK227.out) hb); have n2_ := Aside0.mk (KeepBut.trans (by repeat (first | (with_reducible first | exact HK.out | apply KeepBut.set_ | apply keep_drewN | apply keep_drew | apply keep_alloc | refine keep_far ?_ GW227.out _) | exact HK.out)) (KeepBut.of_below hb g none) (.inl rfl)); have n3_ := Aside0.mk (below_step (by repeat (first | (with_reducible first | exact HB.out | apply below_alloc | apply pw_below_drewN | apply below_drew1 | refine below_set ?_ (IsS64.ge HI0.out) | refine below_set ?_ GE227.out) | exact HB.out)) hb); have n4_ := Aside0.mk (hbox); have n5_ := Aside0.mk ((by rw [hg]; exact (keep_size (w := w) (g := g) (row := none) (by repeat (first | (with_reducible first | exact HK.out | apply KeepBut.set_ | apply keep_drewN | apply keep_drew | apply keep_alloc | refine keep_far ?_ GW227.out _) | exact HK.out))) : w.heap.size ≤ gb232)); have n6_ := Aside0.mk ((Nat.le_trans HW0.out (by rw [hg]; exact (keep_size (w := w) (g := g) (row := none) (by repeat (first | (with_reducible first | exact HK.out | apply KeepBut.set_ | apply keep_drewN | apply keep_drew | apply keep_alloc | refine keep_far ?_ GW227.out _) | exact HK.out))) : w.heap.size ≤ gb232) : w0.heap.size ≤ gb232)); have n7_ := Aside0.mk ((by rw [hg]; exact Nat.ne_of_lt (blk_lt (g := gb227) (o := .cells #[.int .i64 0, .string (⟨#[]⟩ : ByteArray), .int .i64 0] 25 (0, 0)) (by (with_reducible repeat (first | refine blk_drewN ?_ _ | refine blk_drew ?_ | refine blk_alloc ?_ _)); exact BK227.out)) : gb227 ≠ gb232)); have n8_ := Aside0.mk ((by rw [hg]; exact Nat.ne_of_gt (blk_lt (g := gb227) (o := .cells #[.int .i64 0, .string (⟨#[]⟩ : ByteArray), .int .i64 0] 25 (0, 0)) (by (with_reducible repeat (first | refine blk_drewN ?_ _ | refine blk_drew ?_ | refine blk_alloc ?_ _)); exact BK227.out)) : gb232 ≠ gb227)); have n9_ := Aside0.mk ((by rw [hg]; exact Nat.ne_of_lt (IsS64.lt (show IsS64 w0 _ g s0_0 t231 from by repeat (first | (with_reducible first | exact HI0.out | apply IsS64.alloc | apply IsS64.drewN | apply IsS64.drew | apply IsS64.set_1 | refine IsS64.far ?_ NB0_227.out _) | exact HI0.out))) : g ≠ gb232)); have n10_ := Aside0.mk ((by rw [hg]; exact Nat.ne_of_gt (IsS64.lt (show IsS64 w0 _ g s0_0 t231 from by repeat (first | (with_reducible first | exact HI0.out | apply IsS64.alloc | apply IsS64.drewN | apply IsS64.drew | apply IsS64.set_1 | refine IsS64.far ?_ NB0_227.out _) | exact HI0.out))) : gb232 ≠ g)); clear HI0; clear BK227; clear HK; clear HB; have HI0 := n0_; have BK227 := n1_; have HK := n2_; have HB := n3_; have BK232 := n4_; have GW232 := n5_; have GE232 := n6_; have NB227_232 := n7_; have NB232_227 := n8_; have NB0_232 := n9_; have NB232_0 := n10_; clear n0_ n1_ n2_ n3_ n4_ n5_ n6_ n7_ n8_ n9_ n10_; clear hb hbox hg; have hnb23 := NB232_227.out; have hnc23 := NB227_232.out; have hnb24 := NB232_0.out; have hnc24 := NB0_232.out; have hcz25_0 : w22.cell? ⟨gb232, 0, none⟩ = some (.int .i64 0) := (blk_cell BK232.out 0).trans rfl; have hcz25_1 : w22.cell? ⟨gb232, 1, none⟩ = some (.string (⟨#[]⟩ : ByteArray)) := (blk_cell BK232.out 1).trans rfl; have hcz25_2 : w22.cell? ⟨gb232, 2, none⟩ = some (.int .i64 0) := (blk_cell BK232.out 2).trans rfl; have hfz25_0 := blk_frozen BK232.out 0; have hfz25_1 := blk_frozen BK232.out 1; have hfz25_2 := blk_frozen BK232.out 2) | ((with_reducible refine gate_callee (f := 56) rfl ?_); refine goesL_ (some 13) rfl rfl Try.func56 (by kernel_rfl) rfl #[.int .i64 (wrap64 (1 + t228))] rfl (by (try simp only [List.map_toArray, List.map_cons, List.map_nil]); first | done | rfl | (simp only [List.length_drop, List.length_take]; rfl)) ?_; (with_reducible refine (payrollref32_Bare.calls (wrap64 (1 + t228)) true _ A4.out).mono ?_); rintro e w' ⟨rfl, ⟨nd, rfl⟩⟩; refine ⟨_, rfl, ?_⟩) | ((with_reducible refine gate_callee (f := 23) rfl ?_); refine goesL_ (some 19) rfl rfl Try.func23 (by kernel_rfl) rfl #[.pointer (some ⟨g, 0, none⟩), .int .i64 3] rfl (by (try simp only [List.map_toArray, List.map_cons, List.map_nil]); first | done | rfl | (simp only [List.length_drop, List.length_take]; rfl)) ?_; (with_reducible refine (paygen_Deck_Next.calls g s0_0 t231 3 t234 t235 w0 _ ?side1 ?side2 A6.out).mono ?_); (case side1 => repeat (first | (with_reducible first | exact HI0.out | apply IsS64.alloc | apply IsS64.drewN | apply IsS64.drew | apply IsS64.set_1 | refine IsS64.far ?_ NB0_227.out _ | refine IsS64.far ?_ NB0_232.out _) | exact HI0.out)); (case side2 => repeat (first | (with_reducible first | exact HB.out | apply below_alloc | apply pw_below_drewN | apply below_drew1 | refine below_set ?_ (IsS64.ge HI0.out) | refine below_set ?_ GE227.out | refine below_set ?_ GE232.out) | exact HB.out)); rintro e w26 ⟨rfl, hi, hb, hk⟩; refine ⟨_, rfl, ?_⟩; have n0_ := Aside0.mk (KeepBut.blk hk (g' := gb227) (o := .cells #[.int .i64 0, .string (⟨#[]⟩ : ByteArray), .int .i64 0] 25 (0, 0)) (by (with_reducible repeat (first | refine blk_drewN ?_ _ | refine blk_drew ?_ | refine blk_alloc ?_ _)); refine blk_far ?_ NB227_232.out _; (with_reducible repeat (first | refine blk_drewN ?_ _ | refine blk_drew ?_ | refine blk_alloc ?_ _)); refine blk_far ?_ NB227_232.out _; (with_reducible repeat (first | refine blk_drewN ?_ _ | refine blk_drew ?_ | refine blk_alloc ?_ _)); refine blk_far ?_ NB227_232.out _; (with_reducible repeat (first | refine blk_drewN ?_ _ | refine blk_drew ?_ | refine blk_alloc ?_ _)); exact BK227.out) NB227_0.out (by simp)); have n1_ := Aside0.mk (KeepBut.blk hk (g' := gb232) (o := .cells #[.int .i64 (wrap64 (1 + t228)), .string (⟨#[]⟩ : ByteArray), .int .i64 (wrap64 (1 + t230))] 25 (0, 0)) (by (with_reducible repeat (first | refine blk_drewN ?_ _ | refine blk_drew ?_ | refine blk_alloc ?_ _)); refine blk_put (cs := #[.int .i64 (wrap64 (1 + t228)), .string (⟨#[]⟩ : ByteArray), .int .i64 0]) ?_ 2 _ rfl; (with_reducible repeat (first | refine blk_drewN ?_ _ | refine blk_drew ?_ | refine blk_alloc ?_ _)); refine blk_put (cs := #[.int .i64 (wrap64 (1 + t228)), .string (⟨#[]⟩ : ByteArray), .int .i64 0]) ?_ 1 _ rfl; (with_reducible repeat (first | refine blk_drewN ?_ _ | refine blk_drew ?_ | refine blk_alloc ?_ _)); refine blk_put (cs := #[.int .i64 0, .string (⟨#[]⟩ : ByteArray), .int .i64 0]) ?_ 0 _ rfl; (with_reducible repeat (first | refine blk_drewN ?_ _ | refine blk_drew ?_ | refine blk_alloc ?_ _)); exact BK232.out) NB232_0.out (by simp)); have n2_ := Aside0.mk (KeepBut.trans (by repeat (first | (with_reducible first | exact HK.out | apply KeepBut.set_ | apply keep_drewN | apply keep_drew | apply keep_alloc | refine keep_far ?_ GW227.out _ | refine keep_far ?_ GW232.out _) | exact HK.out)) hk (.inl rfl)); have n3_ := Aside0.mk (hb); have n4_ := Aside0.mk (hi); clear BK227; clear BK232; clear HK; clear HB; clear HI0; have BK227 := n0_; have BK232 := n1_; have HK := n2_; have HB := n3_; have HI0 := n4_; clear n0_ n1_ n2_ n3_ n4_; (try clear hb); (try clear hb2); (try clear hk); (try clear hi); have hcz27_0 : w26.cell? ⟨gb232, 0, none⟩ = some (.int .i64 (wrap64 (1 + t228))) := (blk_cell BK232.out 0).trans rfl; have hcz27_1 : w26.cell? ⟨gb232, 1, none⟩ = some (.string (⟨#[]⟩ : ByteArray)) := (blk_cell BK232.out 1).trans rfl; have hcz27_2 : w26.cell? ⟨gb232, 2, none⟩ = some (.int .i64 (wrap64 (1 + t230))) := (blk_cell BK232.out 2).trans rfl; have hfz27_0 := blk_frozen BK232.out 0; have hfz27_1 := blk_frozen BK232.out 1; have hfz27_2 := blk_frozen BK232.out 2; have hnb28 := NB227_0.out; have hnc28 := NB0_227.out; have hcz29_0 : w26.cell? ⟨gb227, 0, none⟩ = some (.int .i64 0) := (blk_cell BK227.out 0).trans rfl; have hcz29_1 : w26.cell? ⟨gb227, 1, none⟩ = some (.string (⟨#[]⟩ : ByteArray)) := (blk_cell BK227.out 1).trans rfl; have hcz29_2 : w26.cell? ⟨gb227, 2, none⟩ = some (.int .i64 0) := (blk_cell BK227.out 2).trans rfl; have hfz29_0 := blk_frozen BK227.out 0; have hfz29_1 := blk_frozen BK227.out 1; have hfz29_2 := blk_frozen BK227.out 2))
      refine bodyPost_ret (results_cell_row rfl _ _ gb227 25 #[.int .i64 (wrap64 (1 + t228)), .string (⟨#[]⟩ : ByteArray), .int .i64 (wrap64 (1 + t230))] (0, 0) _ rfl (by (with_reducible repeat (first | refine blk_drewN ?_ _ | refine blk_drew ?_ | refine blk_alloc ?_ _)); refine blk_put (cs := #[.int .i64 (wrap64 (1 + t228)), .string (⟨#[]⟩ : ByteArray), .int .i64 0]) ?_ 2 _ rfl; (with_reducible repeat (first | refine blk_drewN ?_ _ | refine blk_drew ?_ | refine blk_alloc ?_ _)); refine blk_put (cs := #[.int .i64 (wrap64 (1 + t228)), .string (⟨#[]⟩ : ByteArray), .int .i64 0]) ?_ 1 _ rfl; (with_reducible repeat (first | refine blk_drewN ?_ _ | refine blk_drew ?_ | refine blk_alloc ?_ _)); refine blk_put (cs := #[.int .i64 0, .string (⟨#[]⟩ : ByteArray), .int .i64 0]) ?_ 0 _ rfl; (with_reducible repeat (first | refine blk_drewN ?_ _ | refine blk_drew ?_ | refine blk_alloc ?_ _)); exact BK227.out) Try.underlying25 rfl (by kernel_rfl)) rfl ?_
      exact ⟨by first | rfl | (simp [errW_none, errW_some] <;> rfl) | (simp [*, errW_none, errW_some] <;> rfl), by repeat (first | (with_reducible first | exact HI0.out | apply IsS64.alloc | apply IsS64.drewN | apply IsS64.drew | apply IsS64.set_1 | refine IsS64.far ?_ NB0_227.out _ | refine IsS64.far ?_ NB0_232.out _) | exact HI0.out), by repeat (first | (with_reducible first | exact HB.out | apply below_alloc | apply pw_below_drewN | apply below_drew1 | refine below_set ?_ (IsS64.ge HI0.out) | refine below_set ?_ GE227.out | refine below_set ?_ GE232.out) | exact HB.out), by repeat (first | (with_reducible first | exact HK.out | apply KeepBut.set_ | apply keep_drewN | apply keep_drew | apply keep_alloc | refine keep_far ?_ GW227.out _ | refine keep_far ?_ GW232.out _) | exact HK.out)⟩
  · replace c5 := Bool.eq_false_iff.mpr c5
    subst c5
    have H1 : ((paygen_Deck_Code.f s0_0 t231).bind fun bt236 => ((paygen_Deck_Next.f s0_0 bt236.2 3).bind fun bt238 => (if bt238.1 = 0 then (some (wrap64 (1 + t228), bt236.1, wrap64 (-(wrap64 (1 + t230))), bt238.2)) else (some (wrap64 (1 + t228), bt236.1, wrap64 (1 + t230), bt238.2))))) = some (r1, r2, r3, r4) := by rw [if_neg (show ¬ (false = true) by decide)] at H; exact H
    clear H
    have H := H1
    clear H1
    replace H := Option.bind_eq_some_iff.mp H
    obtain ⟨⟨t236, t237⟩, A300, H⟩ := H
    replace H : ((paygen_Deck_Next.f s0_0 t237 3).bind fun bt238 => (if bt238.1 = 0 then (some (wrap64 (1 + t228), t236, wrap64 (-(wrap64 (1 + t230))), bt238.2)) else (some (wrap64 (1 + t228), t236, wrap64 (1 + t230), bt238.2)))) = some (r1, r2, r3, r4) := H
    have A30 := Aside0.mk A300
    clear A300
    replace H := Option.bind_eq_some_iff.mp H
    obtain ⟨⟨t238, t239⟩, A310, H⟩ := H
    replace H : (if t238 = 0 then (some (wrap64 (1 + t228), t236, wrap64 (-(wrap64 (1 + t230))), t239)) else (some (wrap64 (1 + t228), t236, wrap64 (1 + t230), t239))) = some (r1, r2, r3, r4) := H
    have A31 := Aside0.mk A310
    clear A310
    by_cases c32 : t238 = 0
    · rw [if_pos c32] at H
      have c32b0 : (t238 == 0) = true := beq_iff_eq.mpr c32
      have c32b1 : (t238 != 0) = false := bne_eq_false_iff_eq.mpr c32
      clear c32
      simp only [Option.some.injEq, Prod.mk.injEq] at H
      obtain ⟨rfl, rfl, rfl, rfl⟩ := H
      go_enter Try.func44, Try.ntmps44
      go_wp2_with (first | ((with_reducible refine gate_dst (N := 2) rfl ?_); refine box_event ?hg (N := 2) ?hd (cs := #[.int .i64 0, .string (⟨#[]⟩ : ByteArray), .int .i64 0]) (t := 25) ?hr ?_; (case hd => rfl); (case hg => rfl); (case hr => first | (go_simp; done) | (go_simp; rfl)); intro gb227 hg w33 hbox hb; have n0_ := Aside0.mk (IsS64.below (by repeat (first | (with_reducible first | exact HI0.out | apply IsS64.alloc | apply IsS64.drewN | apply IsS64.drew | apply IsS64.set_1) | exact HI0.out)) hb); have n1_ := Aside0.mk (KeepBut.trans (by repeat (first | (with_reducible first | exact HK.out | apply KeepBut.set_ | apply keep_drewN | apply keep_drew | apply keep_alloc) | exact HK.out)) (KeepBut.of_below hb g none) (.inl rfl)); have n2_ := Aside0.mk (below_step (by repeat (first | (with_reducible first | exact HB.out | apply below_alloc | apply pw_below_drewN | apply below_drew1 | refine below_set ?_ (IsS64.ge HI0.out)) | exact HB.out)) hb); have n3_ := Aside0.mk (hbox); have n4_ := Aside0.mk ((by rw [hg]; exact (keep_size (w := w) (g := g) (row := none) (by repeat (first | (with_reducible first | exact HK.out | apply KeepBut.set_ | apply keep_drewN | apply keep_drew | apply keep_alloc) | exact HK.out))) : w.heap.size ≤ gb227)); have n5_ := Aside0.mk ((Nat.le_trans HW0.out (by rw [hg]; exact (keep_size (w := w) (g := g) (row := none) (by repeat (first | (with_reducible first | exact HK.out | apply KeepBut.set_ | apply keep_drewN | apply keep_drew | apply keep_alloc) | exact HK.out))) : w.heap.size ≤ gb227) : w0.heap.size ≤ gb227)); have n6_ := Aside0.mk ((by rw [hg]; exact Nat.ne_of_lt (IsS64.lt (show IsS64 w0 _ g s0_0 s0_1 from by repeat (first | (with_reducible first | exact HI0.out | apply IsS64.alloc | apply IsS64.drewN | apply IsS64.drew | apply IsS64.set_1) | exact HI0.out))) : g ≠ gb227)); have n7_ := Aside0.mk ((by rw [hg]; exact Nat.ne_of_gt (IsS64.lt (show IsS64 w0 _ g s0_0 s0_1 from by repeat (first | (with_reducible first | exact HI0.out | apply IsS64.alloc | apply IsS64.drewN | apply IsS64.drew | apply IsS64.set_1) | exact HI0.out))) : gb227 ≠ g)); clear HI0; clear HK; clear HB; have HI0 := n0_; have HK := n1_; have HB := n2_; have BK227 := n3_; have GW227 := n4_; have GE227 := n5_; have NB0_227 := n6_; have NB227_0 := n7_; clear n0_ n1_ n2_ n3_ n4_ n5_ n6_ n7_; clear hb hbox hg) | ((with_reducible refine gate_callee (f := 23) rfl ?_); refine goesL_ (some 5) rfl rfl Try.func23 (by kernel_rfl) rfl #[.pointer (some ⟨g, 0, none⟩), .int .i64 10] rfl (by (try simp only [List.map_toArray, List.map_cons, List.map_nil]); first | done | rfl | (simp only [List.length_drop, List.length_take]; rfl)) ?_; (with_reducible refine (paygen_Deck_Next.calls g s0_0 s0_1 10 t228 t229 w0 _ ?side1 ?side2 A2.out).mono ?_); (case side1 => repeat (first | (with_reducible first | exact HI0.out | apply IsS64.alloc | apply IsS64.drewN | apply IsS64.drew | apply IsS64.set_1 | refine IsS64.far ?_ NB0_227.out _) | exact HI0.out)); (case side2 => repeat (first | (with_reducible first | exact HB.out | apply below_alloc | apply pw_below_drewN | apply below_drew1 | refine below_set ?_ (IsS64.ge HI0.out) | refine below_set ?_ GE227.out) | exact HB.out)); rintro e w34 ⟨rfl, hi, hb, hk⟩; refine ⟨_, rfl, ?_⟩; have n0_ := Aside0.mk (KeepBut.blk hk (g' := gb227) (o := .cells #[.int .i64 0, .string (⟨#[]⟩ : ByteArray), .int .i64 0] 25 (0, 0)) (by (with_reducible repeat (first | refine blk_drewN ?_ _ | refine blk_drew ?_ | refine blk_alloc ?_ _)); exact BK227.out) NB227_0.out (by simp)); have n1_ := Aside0.mk (KeepBut.trans (by repeat (first | (with_reducible first | exact HK.out | apply KeepBut.set_ | apply keep_drewN | apply keep_drew | apply keep_alloc | refine keep_far ?_ GW227.out _) | exact HK.out)) hk (.inl rfl)); have n2_ := Aside0.mk (hb); have n3_ := Aside0.mk (hi); clear BK227; clear HK; clear HB; clear HI0; have BK227 := n0_; have HK := n1_; have HB := n2_; have HI0 := n3_; clear n0_ n1_ n2_ n3_; (try clear hb); (try clear hb2); (try clear hk); (try clear hi)) | ((with_reducible refine gate_callee (f := 55) rfl ?_); refine goesL_ (some 8) rfl rfl Try.func55 (by kernel_rfl) rfl #[.pointer (some ⟨g, 0, none⟩)] rfl (by (try simp only [List.map_toArray, List.map_cons, List.map_nil]); first | done | rfl | (simp only [List.length_drop, List.length_take]; rfl)) ?_; (with_reducible refine (paygen_Deck_Small.calls g s0_0 t229 t230 t231 w0 _ ?side1 ?side2 A3.out).mono ?_); (case side1 => repeat (first | (with_reducible first | exact HI0.out | apply IsS64.alloc | apply IsS64.drewN | apply IsS64.drew | apply IsS64.set_1 | refine IsS64.far ?_ NB0_227.out _) | exact HI0.out)); (case side2 => repeat (first | (with_reducible first | exact HB.out | apply below_alloc | apply pw_below_drewN | apply below_drew1 | refine below_set ?_ (IsS64.ge HI0.out) | refine below_set ?_ GE227.out) | exact HB.out)); rintro e w35 ⟨rfl, hi, hb, hk⟩; refine ⟨_, rfl, ?_⟩; have n0_ := Aside0.mk (KeepBut.blk hk (g' := gb227) (o := .cells #[.int .i64 0, .string (⟨#[]⟩ : ByteArray), .int .i64 0] 25 (0, 0)) (by (with_reducible repeat (first | refine blk_drewN ?_ _ | refine blk_drew ?_ | refine blk_alloc ?_ _)); exact BK227.out) NB227_0.out (by simp)); have n1_ := Aside0.mk (KeepBut.trans (by repeat (first | (with_reducible first | exact HK.out | apply KeepBut.set_ | apply keep_drewN | apply keep_drew | apply keep_alloc | refine keep_far ?_ GW227.out _) | exact HK.out)) hk (.inl rfl)); have n2_ := Aside0.mk (hb); have n3_ := Aside0.mk (hi); clear BK227; clear HK; clear HB; clear HI0; have BK227 := n0_; have HK := n1_; have HB := n2_; have HI0 := n3_; clear n0_ n1_ n2_ n3_; (try clear hb); (try clear hb2); (try clear hk); (try clear hi)) | ((with_reducible refine gate_dst (N := 3) rfl ?_); refine box_event ?hg (N := 3) ?hd (cs := #[.int .i64 0, .string (⟨#[]⟩ : ByteArray), .int .i64 0]) (t := 25) ?hr ?_; (case hd => rfl); (case hg => rfl); (case hr => first | (go_simp; done) | (go_simp; rfl)); intro gb232 hg w36 hbox hb; have n0_ := Aside0.mk (IsS64.below (by repeat (first | (with_reducible first | exact HI0.out | apply IsS64.alloc | apply IsS64.drewN | apply IsS64.drew | apply IsS64.set_1 | refine IsS64.far ?_ NB0_227.out _) | exact HI0.out)) hb); have n1_ := Aside0.mk (blk_below (g := gb227) (o := .cells #[.int .i64 0, .string (⟨#[]⟩ : ByteArray), .int .i64 0] 25 (0, 0)) (by (with_reducible repeat (first | refine blk_drewN ?_ _ | refine blk_drew ?_ | refine blk_alloc ?_ _)); exact BK227.out) hb); have n2_ := Aside0.mk (KeepBut.trans (by repeat (first | (with_reducible first | exact HK.out | apply KeepBut.set_ | apply keep_drewN | apply keep_drew | apply keep_alloc | refine keep_far ?_ GW227.out _) | exact HK.out)) (KeepBut.of_below hb g none) (.inl rfl)); have n3_ := Aside0.mk (below_step (by repeat (first | (with_reducible first | exact HB.out | apply below_alloc | apply pw_below_drewN | apply below_drew1 | refine below_set ?_ (IsS64.ge HI0.out) | refine below_set ?_ GE227.out) | exact HB.out)) hb); have n4_ := Aside0.mk (hbox); have n5_ := Aside0.mk ((by rw [hg]; exact (keep_size (w := w) (g := g) (row := none) (by repeat (first | (with_reducible first | exact HK.out | apply KeepBut.set_ | apply keep_drewN | apply keep_drew | apply keep_alloc | refine keep_far ?_ GW227.out _) | exact HK.out))) : w.heap.size ≤ gb232)); have n6_ := Aside0.mk ((Nat.le_trans HW0.out (by rw [hg]; exact (keep_size (w := w) (g := g) (row := none) (by repeat (first | (with_reducible first | exact HK.out | apply KeepBut.set_ | apply keep_drewN | apply keep_drew | apply keep_alloc | refine keep_far ?_ GW227.out _) | exact HK.out))) : w.heap.size ≤ gb232) : w0.heap.size ≤ gb232)); have n7_ := Aside0.mk ((by rw [hg]; exact Nat.ne_of_lt (blk_lt (g := gb227) (o := .cells #[.int .i64 0, .string (⟨#[]⟩ : ByteArray), .int .i64 0] 25 (0, 0)) (by (with_reducible repeat (first | refine blk_drewN ?_ _ | refine blk_drew ?_ | refine blk_alloc ?_ _)); exact BK227.out)) : gb227 ≠ gb232)); have n8_ := Aside0.mk ((by rw [hg]; exact Nat.ne_of_gt (blk_lt (g := gb227) (o := .cells #[.int .i64 0, .string (⟨#[]⟩ : ByteArray), .int .i64 0] 25 (0, 0)) (by (with_reducible repeat (first | refine blk_drewN ?_ _ | refine blk_drew ?_ | refine blk_alloc ?_ _)); exact BK227.out)) : gb232 ≠ gb227)); have n9_ := Aside0.mk ((by rw [hg]; exact Nat.ne_of_lt (IsS64.lt (show IsS64 w0 _ g s0_0 t231 from by repeat (first | (with_reducible first | exact HI0.out | apply IsS64.alloc | apply IsS64.drewN | apply IsS64.drew | apply IsS64.set_1 | refine IsS64.far ?_ NB0_227.out _) | exact HI0.out))) : g ≠ gb232)); have n10_ := Aside0.mk ((by rw [hg]; exact Nat.ne_of_gt (IsS64.lt (show IsS64 w0 _ g s0_0 t231 from by repeat (first | (with_reducible first | exact HI0.out | apply IsS64.alloc | apply IsS64.drewN | apply IsS64.drew | apply IsS64.set_1 | refine IsS64.far ?_ NB0_227.out _) | exact HI0.out))) : gb232 ≠ g)); clear HI0; clear BK227; clear HK; clear HB; have HI0 := n0_; have BK227 := n1_; have HK := n2_; have HB := n3_; have BK232 := n4_; have GW232 := n5_; have GE232 := n6_; have NB227_232 := n7_; have NB232_227 := n8_; have NB0_232 := n9_; have NB232_0 := n10_; clear n0_ n1_ n2_ n3_ n4_ n5_ n6_ n7_ n8_ n9_ n10_; clear hb hbox hg; have hnb37 := NB232_227.out; have hnc37 := NB227_232.out; have hnb38 := NB232_0.out; have hnc38 := NB0_232.out; have hcz39_0 : w36.cell? ⟨gb232, 0, none⟩ = some (.int .i64 0) := (blk_cell BK232.out 0).trans rfl; have hcz39_1 : w36.cell? ⟨gb232, 1, none⟩ = some (.string (⟨#[]⟩ : ByteArray)) := (blk_cell BK232.out 1).trans rfl; have hcz39_2 : w36.cell? ⟨gb232, 2, none⟩ = some (.int .i64 0) := (blk_cell BK232.out 2).trans rfl; have hfz39_0 := blk_frozen BK232.out 0; have hfz39_1 := blk_frozen BK232.out 1; have hfz39_2 := blk_frozen BK232.out 2) | ((with_reducible refine gate_callee (f := 56) rfl ?_); refine goesL_ (some 13) rfl rfl Try.func56 (by kernel_rfl) rfl #[.int .i64 (wrap64 (1 + t228))] rfl (by (try simp only [List.map_toArray, List.map_cons, List.map_nil]); first | done | rfl | (simp only [List.length_drop, List.length_take]; rfl)) ?_; (with_reducible refine (payrollref32_Bare.calls (wrap64 (1 + t228)) false _ A4.out).mono ?_); rintro e w' ⟨rfl, ⟨nd, rfl⟩⟩; refine ⟨_, rfl, ?_⟩) | ((with_reducible refine gate_callee (f := 57) rfl ?_); refine goesL_ (some 16) rfl rfl Try.func57 (by kernel_rfl) rfl #[.pointer (some ⟨g, 0, none⟩)] rfl (by (try simp only [List.map_toArray, List.map_cons, List.map_nil]); first | done | rfl | (simp only [List.length_drop, List.length_take]; rfl)) ?_; (with_reducible refine (paygen_Deck_Code.calls g s0_0 t231 t236 t237 w0 _ ?side1 ?side2 A30.out).mono ?_); (case side1 => repeat (first | (with_reducible first | exact HI0.out | apply IsS64.alloc | apply IsS64.drewN | apply IsS64.drew | apply IsS64.set_1 | refine IsS64.far ?_ NB0_227.out _ | refine IsS64.far ?_ NB0_232.out _) | exact HI0.out)); (case side2 => repeat (first | (with_reducible first | exact HB.out | apply below_alloc | apply pw_below_drewN | apply below_drew1 | refine below_set ?_ (IsS64.ge HI0.out) | refine below_set ?_ GE227.out | refine below_set ?_ GE232.out) | exact HB.out)); rintro e w40 ⟨rfl, hi, hb, hk⟩; refine ⟨_, rfl, ?_⟩; have n0_ := Aside0.mk (KeepBut.blk hk (g' := gb227) (o := .cells #[.int .i64 0, .string (⟨#[]⟩ : ByteArray), .int .i64 0] 25 (0, 0)) (by (with_reducible repeat (first | refine blk_drewN ?_ _ | refine blk_drew ?_ | refine blk_alloc ?_ _)); refine blk_far ?_ NB227_232.out _; (with_reducible repeat (first | refine blk_drewN ?_ _ | refine blk_drew ?_ | refine blk_alloc ?_ _)); refine blk_far ?_ NB227_232.out _; (with_reducible repeat (first | refine blk_drewN ?_ _ | refine blk_drew ?_ | refine blk_alloc ?_ _)); refine blk_far ?_ NB227_232.out _; (with_reducible repeat (first | refine blk_drewN ?_ _ | refine blk_drew ?_ | refine blk_alloc ?_ _)); exact BK227.out) NB227_0.out (by simp)); have n1_ := Aside0.mk (KeepBut.blk hk (g' := gb232) (o := .cells #[.int .i64 (wrap64 (1 + t228)), .string (⟨#[]⟩ : ByteArray), .int .i64 (wrap64 (1 + t230))] 25 (0, 0)) (by (with_reducible repeat (first | refine blk_drewN ?_ _ | refine blk_drew ?_ | refine blk_alloc ?_ _)); refine blk_put (cs := #[.int .i64 (wrap64 (1 + t228)), .string (⟨#[]⟩ : ByteArray), .int .i64 0]) ?_ 2 _ rfl; (with_reducible repeat (first | refine blk_drewN ?_ _ | refine blk_drew ?_ | refine blk_alloc ?_ _)); refine blk_put (cs := #[.int .i64 (wrap64 (1 + t228)), .string (⟨#[]⟩ : ByteArray), .int .i64 0]) ?_ 1 _ rfl; (with_reducible repeat (first | refine blk_drewN ?_ _ | refine blk_drew ?_ | refine blk_alloc ?_ _)); refine blk_put (cs := #[.int .i64 0, .string (⟨#[]⟩ : ByteArray), .int .i64 0]) ?_ 0 _ rfl; (with_reducible repeat (first | refine blk_drewN ?_ _ | refine blk_drew ?_ | refine blk_alloc ?_ _)); exact BK232.out) NB232_0.out (by simp)); have n2_ := Aside0.mk (KeepBut.trans (by repeat (first | (with_reducible first | exact HK.out | apply KeepBut.set_ | apply keep_drewN | apply keep_drew | apply keep_alloc | refine keep_far ?_ GW227.out _ | refine keep_far ?_ GW232.out _) | exact HK.out)) hk (.inl rfl)); have n3_ := Aside0.mk (hb); have n4_ := Aside0.mk (hi); clear BK227; clear BK232; clear HK; clear HB; clear HI0; have BK227 := n0_; have BK232 := n1_; have HK := n2_; have HB := n3_; have HI0 := n4_; clear n0_ n1_ n2_ n3_ n4_; (try clear hb); (try clear hb2); (try clear hk); (try clear hi); have hcz41_0 : w40.cell? ⟨gb232, 0, none⟩ = some (.int .i64 (wrap64 (1 + t228))) := (blk_cell BK232.out 0).trans rfl; have hcz41_1 : w40.cell? ⟨gb232, 1, none⟩ = some (.string (⟨#[]⟩ : ByteArray)) := (blk_cell BK232.out 1).trans rfl; have hcz41_2 : w40.cell? ⟨gb232, 2, none⟩ = some (.int .i64 (wrap64 (1 + t230))) := (blk_cell BK232.out 2).trans rfl; have hfz41_0 := blk_frozen BK232.out 0; have hfz41_1 := blk_frozen BK232.out 1; have hfz41_2 := blk_frozen BK232.out 2) | ((with_reducible refine gate_callee (f := 23) rfl ?_); refine goesL_ (some 19) rfl rfl Try.func23 (by kernel_rfl) rfl #[.pointer (some ⟨g, 0, none⟩), .int .i64 3] rfl (by (try simp only [List.map_toArray, List.map_cons, List.map_nil]); first | done | rfl | (simp only [List.length_drop, List.length_take]; rfl)) ?_; (with_reducible refine (paygen_Deck_Next.calls g s0_0 t237 3 t238 t239 w0 _ ?side1 ?side2 A31.out).mono ?_); (case side1 => repeat (first | (with_reducible first | exact HI0.out | apply IsS64.alloc | apply IsS64.drewN | apply IsS64.drew | apply IsS64.set_1 | refine IsS64.far ?_ NB0_227.out _ | refine IsS64.far ?_ NB0_232.out _) | exact HI0.out)); (case side2 => repeat (first | (with_reducible first | exact HB.out | apply below_alloc | apply pw_below_drewN | apply below_drew1 | refine below_set ?_ (IsS64.ge HI0.out) | refine below_set ?_ GE227.out | refine below_set ?_ GE232.out) | exact HB.out)); rintro e w42 ⟨rfl, hi, hb, hk⟩; refine ⟨_, rfl, ?_⟩; have n0_ := Aside0.mk (KeepBut.blk hk (g' := gb227) (o := .cells #[.int .i64 0, .string (⟨#[]⟩ : ByteArray), .int .i64 0] 25 (0, 0)) (by (with_reducible repeat (first | refine blk_drewN ?_ _ | refine blk_drew ?_ | refine blk_alloc ?_ _)); refine blk_far ?_ NB227_232.out _; (with_reducible repeat (first | refine blk_drewN ?_ _ | refine blk_drew ?_ | refine blk_alloc ?_ _)); exact BK227.out) NB227_0.out (by simp)); have n1_ := Aside0.mk (KeepBut.blk hk (g' := gb232) (o := .cells #[.int .i64 (wrap64 (1 + t228)), .string t236, .int .i64 (wrap64 (1 + t230))] 25 (0, 0)) (by (with_reducible repeat (first | refine blk_drewN ?_ _ | refine blk_drew ?_ | refine blk_alloc ?_ _)); refine blk_put (cs := #[.int .i64 (wrap64 (1 + t228)), .string (⟨#[]⟩ : ByteArray), .int .i64 (wrap64 (1 + t230))]) ?_ 1 _ rfl; (with_reducible repeat (first | refine blk_drewN ?_ _ | refine blk_drew ?_ | refine blk_alloc ?_ _)); exact BK232.out) NB232_0.out (by simp)); have n2_ := Aside0.mk (KeepBut.trans (by repeat (first | (with_reducible first | exact HK.out | apply KeepBut.set_ | apply keep_drewN | apply keep_drew | apply keep_alloc | refine keep_far ?_ GW227.out _ | refine keep_far ?_ GW232.out _) | exact HK.out)) hk (.inl rfl)); have n3_ := Aside0.mk (hb); have n4_ := Aside0.mk (hi); clear BK227; clear BK232; clear HK; clear HB; clear HI0; have BK227 := n0_; have BK232 := n1_; have HK := n2_; have HB := n3_; have HI0 := n4_; clear n0_ n1_ n2_ n3_ n4_; (try clear hb); (try clear hb2); (try clear hk); (try clear hi); have hcz43_0 : w42.cell? ⟨gb232, 0, none⟩ = some (.int .i64 (wrap64 (1 + t228))) := (blk_cell BK232.out 0).trans rfl; have hcz43_1 : w42.cell? ⟨gb232, 1, none⟩ = some (.string t236) := (blk_cell BK232.out 1).trans rfl; have hcz43_2 : w42.cell? ⟨gb232, 2, none⟩ = some (.int .i64 (wrap64 (1 + t230))) := (blk_cell BK232.out 2).trans rfl; have hfz43_0 := blk_frozen BK232.out 0; have hfz43_1 := blk_frozen BK232.out 1; have hfz43_2 := blk_frozen BK232.out 2; have hnb44 := NB227_0.out; have hnc44 := NB0_227.out; have hcz45_0 : w42.cell? ⟨gb227, 0, none⟩ = some (.int .i64 0) := (blk_cell BK227.out 0).trans rfl; have hcz45_1 : w42.cell? ⟨gb227, 1, none⟩ = some (.string (⟨#[]⟩ : ByteArray)) := (blk_cell BK227.out 1).trans rfl; have hcz45_2 : w42.cell? ⟨gb227, 2, none⟩ = some (.int .i64 0) := (blk_cell BK227.out 2).trans rfl; have hfz45_0 := blk_frozen BK227.out 0; have hfz45_1 := blk_frozen BK227.out 1; have hfz45_2 := blk_frozen BK227.out 2))
      refine bodyPost_ret (results_cell_row rfl _ _ gb227 25 #[.int .i64 (wrap64 (1 + t228)), .string t236, .int .i64 (wrap64 (-(wrap64 (1 + t230))))] (0, 0) _ rfl (by (with_reducible repeat (first | refine blk_drewN ?_ _ | refine blk_drew ?_ | refine blk_alloc ?_ _)); refine blk_put (cs := #[.int .i64 (wrap64 (1 + t228)), .string t236, .int .i64 0]) ?_ 2 _ rfl; (with_reducible repeat (first | refine blk_drewN ?_ _ | refine blk_drew ?_ | refine blk_alloc ?_ _)); refine blk_put (cs := #[.int .i64 (wrap64 (1 + t228)), .string (⟨#[]⟩ : ByteArray), .int .i64 0]) ?_ 1 _ rfl; (with_reducible repeat (first | refine blk_drewN ?_ _ | refine blk_drew ?_ | refine blk_alloc ?_ _)); refine blk_put (cs := #[.int .i64 0, .string (⟨#[]⟩ : ByteArray), .int .i64 0]) ?_ 0 _ rfl; (with_reducible repeat (first | refine blk_drewN ?_ _ | refine blk_drew ?_ | refine blk_alloc ?_ _)); refine blk_far ?_ NB227_232.out _; (with_reducible repeat (first | refine blk_drewN ?_ _ | refine blk_drew ?_ | refine blk_alloc ?_ _)); exact BK227.out) Try.underlying25 rfl (by kernel_rfl)) rfl ?_
      exact ⟨by first | rfl | (simp [errW_none, errW_some] <;> rfl) | (simp [*, errW_none, errW_some] <;> rfl), by repeat (first | (with_reducible first | exact HI0.out | apply IsS64.alloc | apply IsS64.drewN | apply IsS64.drew | apply IsS64.set_1 | refine IsS64.far ?_ NB0_227.out _ | refine IsS64.far ?_ NB0_232.out _) | exact HI0.out), by repeat (first | (with_reducible first | exact HB.out | apply below_alloc | apply pw_below_drewN | apply below_drew1 | refine below_set ?_ (IsS64.ge HI0.out) | refine below_set ?_ GE227.out | refine below_set ?_ GE232.out) | exact HB.out), by repeat (first | (with_reducible first | exact HK.out | apply KeepBut.set_ | apply keep_drewN | apply keep_drew | apply keep_alloc | refine keep_far ?_ GW227.out _ | refine keep_far ?_ GW232.out _) | exact HK.out)⟩
    · rw [if_neg c32] at H
      have c32b0 : (t238 == 0) = false := beq_eq_false_iff_ne.mpr c32
      have c32b1 : (t238 != 0) = true := bne_iff_ne.mpr c32
      simp only [Option.some.injEq, Prod.mk.injEq] at H
      obtain ⟨rfl, rfl, rfl, rfl⟩ := H
      go_enter Try.func44, Try.ntmps44
      go_wp2_with (first | ((with_reducible refine gate_dst (N := 2) rfl ?_); refine box_event ?hg (N := 2) ?hd (cs := #[.int .i64 0, .string (⟨#[]⟩ : ByteArray), .int .i64 0]) (t := 25) ?hr ?_; (case hd => rfl); (case hg => rfl); (case hr => first | (go_simp; done) | (go_simp; rfl)); intro gb227 hg w46 hbox hb; have n0_ := Aside0.mk (IsS64.below (by repeat (first | (with_reducible first | exact HI0.out | apply IsS64.alloc | apply IsS64.drewN | apply IsS64.drew | apply IsS64.set_1) | exact HI0.out)) hb); have n1_ := Aside0.mk (KeepBut.trans (by repeat (first | (with_reducible first | exact HK.out | apply KeepBut.set_ | apply keep_drewN | apply keep_drew | apply keep_alloc) | exact HK.out)) (KeepBut.of_below hb g none) (.inl rfl)); have n2_ := Aside0.mk (below_step (by repeat (first | (with_reducible first | exact HB.out | apply below_alloc | apply pw_below_drewN | apply below_drew1 | refine below_set ?_ (IsS64.ge HI0.out)) | exact HB.out)) hb); have n3_ := Aside0.mk (hbox); have n4_ := Aside0.mk ((by rw [hg]; exact (keep_size (w := w) (g := g) (row := none) (by repeat (first | (with_reducible first | exact HK.out | apply KeepBut.set_ | apply keep_drewN | apply keep_drew | apply keep_alloc) | exact HK.out))) : w.heap.size ≤ gb227)); have n5_ := Aside0.mk ((Nat.le_trans HW0.out (by rw [hg]; exact (keep_size (w := w) (g := g) (row := none) (by repeat (first | (with_reducible first | exact HK.out | apply KeepBut.set_ | apply keep_drewN | apply keep_drew | apply keep_alloc) | exact HK.out))) : w.heap.size ≤ gb227) : w0.heap.size ≤ gb227)); have n6_ := Aside0.mk ((by rw [hg]; exact Nat.ne_of_lt (IsS64.lt (show IsS64 w0 _ g s0_0 s0_1 from by repeat (first | (with_reducible first | exact HI0.out | apply IsS64.alloc | apply IsS64.drewN | apply IsS64.drew | apply IsS64.set_1) | exact HI0.out))) : g ≠ gb227)); have n7_ := Aside0.mk ((by rw [hg]; exact Nat.ne_of_gt (IsS64.lt (show IsS64 w0 _ g s0_0 s0_1 from by repeat (first | (with_reducible first | exact HI0.out | apply IsS64.alloc | apply IsS64.drewN | apply IsS64.drew | apply IsS64.set_1) | exact HI0.out))) : gb227 ≠ g)); clear HI0; clear HK; clear HB; have HI0 := n0_; have HK := n1_; have HB := n2_; have BK227 := n3_; have GW227 := n4_; have GE227 := n5_; have NB0_227 := n6_; have NB227_0 := n7_; clear n0_ n1_ n2_ n3_ n4_ n5_ n6_ n7_; clear hb hbox hg) | ((with_reducible refine gate_callee (f := 23) rfl ?_); refine goesL_ (some 5) rfl rfl Try.func23 (by kernel_rfl) rfl #[.pointer (some ⟨g, 0, none⟩), .int .i64 10] rfl (by (try simp only [List.map_toArray, List.map_cons, List.map_nil]); first | done | rfl | (simp only [List.length_drop, List.length_take]; rfl)) ?_; (with_reducible refine (paygen_Deck_Next.calls g s0_0 s0_1 10 t228 t229 w0 _ ?side1 ?side2 A2.out).mono ?_); (case side1 => repeat (first | (with_reducible first | exact HI0.out | apply IsS64.alloc | apply IsS64.drewN | apply IsS64.drew | apply IsS64.set_1 | refine IsS64.far ?_ NB0_227.out _) | exact HI0.out)); (case side2 => repeat (first | (with_reducible first | exact HB.out | apply below_alloc | apply pw_below_drewN | apply below_drew1 | refine below_set ?_ (IsS64.ge HI0.out) | refine below_set ?_ GE227.out) | exact HB.out)); rintro e w47 ⟨rfl, hi, hb, hk⟩; refine ⟨_, rfl, ?_⟩; have n0_ := Aside0.mk (KeepBut.blk hk (g' := gb227) (o := .cells #[.int .i64 0, .string (⟨#[]⟩ : ByteArray), .int .i64 0] 25 (0, 0)) (by (with_reducible repeat (first | refine blk_drewN ?_ _ | refine blk_drew ?_ | refine blk_alloc ?_ _)); exact BK227.out) NB227_0.out (by simp)); have n1_ := Aside0.mk (KeepBut.trans (by repeat (first | (with_reducible first | exact HK.out | apply KeepBut.set_ | apply keep_drewN | apply keep_drew | apply keep_alloc | refine keep_far ?_ GW227.out _) | exact HK.out)) hk (.inl rfl)); have n2_ := Aside0.mk (hb); have n3_ := Aside0.mk (hi); clear BK227; clear HK; clear HB; clear HI0; have BK227 := n0_; have HK := n1_; have HB := n2_; have HI0 := n3_; clear n0_ n1_ n2_ n3_; (try clear hb); (try clear hb2); (try clear hk); (try clear hi)) | ((with_reducible refine gate_callee (f := 55) rfl ?_); refine goesL_ (some 8) rfl rfl Try.func55 (by kernel_rfl) rfl #[.pointer (some ⟨g, 0, none⟩)] rfl (by (try simp only [List.map_toArray, List.map_cons, List.map_nil]); first | done | rfl | (simp only [List.length_drop, List.length_take]; rfl)) ?_; (with_reducible refine (paygen_Deck_Small.calls g s0_0 t229 t230 t231 w0 _ ?side1 ?side2 A3.out).mono ?_); (case side1 => repeat (first | (with_reducible first | exact HI0.out | apply IsS64.alloc | apply IsS64.drewN | apply IsS64.drew | apply IsS64.set_1 | refine IsS64.far ?_ NB0_227.out _) | exact HI0.out)); (case side2 => repeat (first | (with_reducible first | exact HB.out | apply below_alloc | apply pw_below_drewN | apply below_drew1 | refine below_set ?_ (IsS64.ge HI0.out) | refine below_set ?_ GE227.out) | exact HB.out)); rintro e w48 ⟨rfl, hi, hb, hk⟩; refine ⟨_, rfl, ?_⟩; have n0_ := Aside0.mk (KeepBut.blk hk (g' := gb227) (o := .cells #[.int .i64 0, .string (⟨#[]⟩ : ByteArray), .int .i64 0] 25 (0, 0)) (by (with_reducible repeat (first | refine blk_drewN ?_ _ | refine blk_drew ?_ | refine blk_alloc ?_ _)); exact BK227.out) NB227_0.out (by simp)); have n1_ := Aside0.mk (KeepBut.trans (by repeat (first | (with_reducible first | exact HK.out | apply KeepBut.set_ | apply keep_drewN | apply keep_drew | apply keep_alloc | refine keep_far ?_ GW227.out _) | exact HK.out)) hk (.inl rfl)); have n2_ := Aside0.mk (hb); have n3_ := Aside0.mk (hi); clear BK227; clear HK; clear HB; clear HI0; have BK227 := n0_; have HK := n1_; have HB := n2_; have HI0 := n3_; clear n0_ n1_ n2_ n3_; (try clear hb); (try clear hb2); (try clear hk); (try clear hi)) | ((with_reducible refine gate_dst (N := 3) rfl ?_); refine box_event ?hg (N := 3) ?hd (cs := #[.int .i64 0, .string (⟨#[]⟩ : ByteArray), .int .i64 0]) (t := 25) ?hr ?_; (case hd => rfl); (case hg => rfl); (case hr => first | (go_simp; done) | (go_simp; rfl)); intro gb232 hg w49 hbox hb; have n0_ := Aside0.mk (IsS64.below (by repeat (first | (with_reducible first | exact HI0.out | apply IsS64.alloc | apply IsS64.drewN | apply IsS64.drew | apply IsS64.set_1 | refine IsS64.far ?_ NB0_227.out _) | exact HI0.out)) hb); have n1_ := Aside0.mk (blk_below (g := gb227) (o := .cells #[.int .i64 0, .string (⟨#[]⟩ : ByteArray), .int .i64 0] 25 (0, 0)) (by (with_reducible repeat (first | refine blk_drewN ?_ _ | refine blk_drew ?_ | refine blk_alloc ?_ _)); exact BK227.out) hb); have n2_ := Aside0.mk (KeepBut.trans (by repeat (first | (with_reducible first | exact HK.out | apply KeepBut.set_ | apply keep_drewN | apply keep_drew | apply keep_alloc | refine keep_far ?_ GW227.out _) | exact HK.out)) (KeepBut.of_below hb g none) (.inl rfl)); have n3_ := Aside0.mk (below_step (by repeat (first | (with_reducible first | exact HB.out | apply below_alloc | apply pw_below_drewN | apply below_drew1 | refine below_set ?_ (IsS64.ge HI0.out) | refine below_set ?_ GE227.out) | exact HB.out)) hb); have n4_ := Aside0.mk (hbox); have n5_ := Aside0.mk ((by rw [hg]; exact (keep_size (w := w) (g := g) (row := none) (by repeat (first | (with_reducible first | exact HK.out | apply KeepBut.set_ | apply keep_drewN | apply keep_drew | apply keep_alloc | refine keep_far ?_ GW227.out _) | exact HK.out))) : w.heap.size ≤ gb232)); have n6_ := Aside0.mk ((Nat.le_trans HW0.out (by rw [hg]; exact (keep_size (w := w) (g := g) (row := none) (by repeat (first | (with_reducible first | exact HK.out | apply KeepBut.set_ | apply keep_drewN | apply keep_drew | apply keep_alloc | refine keep_far ?_ GW227.out _) | exact HK.out))) : w.heap.size ≤ gb232) : w0.heap.size ≤ gb232)); have n7_ := Aside0.mk ((by rw [hg]; exact Nat.ne_of_lt (blk_lt (g := gb227) (o := .cells #[.int .i64 0, .string (⟨#[]⟩ : ByteArray), .int .i64 0] 25 (0, 0)) (by (with_reducible repeat (first | refine blk_drewN ?_ _ | refine blk_drew ?_ | refine blk_alloc ?_ _)); exact BK227.out)) : gb227 ≠ gb232)); have n8_ := Aside0.mk ((by rw [hg]; exact Nat.ne_of_gt (blk_lt (g := gb227) (o := .cells #[.int .i64 0, .string (⟨#[]⟩ : ByteArray), .int .i64 0] 25 (0, 0)) (by (with_reducible repeat (first | refine blk_drewN ?_ _ | refine blk_drew ?_ | refine blk_alloc ?_ _)); exact BK227.out)) : gb232 ≠ gb227)); have n9_ := Aside0.mk ((by rw [hg]; exact Nat.ne_of_lt (IsS64.lt (show IsS64 w0 _ g s0_0 t231 from by repeat (first | (with_reducible first | exact HI0.out | apply IsS64.alloc | apply IsS64.drewN | apply IsS64.drew | apply IsS64.set_1 | refine IsS64.far ?_ NB0_227.out _) | exact HI0.out))) : g ≠ gb232)); have n10_ := Aside0.mk ((by rw [hg]; exact Nat.ne_of_gt (IsS64.lt (show IsS64 w0 _ g s0_0 t231 from by repeat (first | (with_reducible first | exact HI0.out | apply IsS64.alloc | apply IsS64.drewN | apply IsS64.drew | apply IsS64.set_1 | refine IsS64.far ?_ NB0_227.out _) | exact HI0.out))) : gb232 ≠ g)); clear HI0; clear BK227; clear HK; clear HB; have HI0 := n0_; have BK227 := n1_; have HK := n2_; have HB := n3_; have BK232 := n4_; have GW232 := n5_; have GE232 := n6_; have NB227_232 := n7_; have NB232_227 := n8_; have NB0_232 := n9_; have NB232_0 := n10_; clear n0_ n1_ n2_ n3_ n4_ n5_ n6_ n7_ n8_ n9_ n10_; clear hb hbox hg; have hnb50 := NB232_227.out; have hnc50 := NB227_232.out; have hnb51 := NB232_0.out; have hnc51 := NB0_232.out; have hcz52_0 : w49.cell? ⟨gb232, 0, none⟩ = some (.int .i64 0) := (blk_cell BK232.out 0).trans rfl; have hcz52_1 : w49.cell? ⟨gb232, 1, none⟩ = some (.string (⟨#[]⟩ : ByteArray)) := (blk_cell BK232.out 1).trans rfl; have hcz52_2 : w49.cell? ⟨gb232, 2, none⟩ = some (.int .i64 0) := (blk_cell BK232.out 2).trans rfl; have hfz52_0 := blk_frozen BK232.out 0; have hfz52_1 := blk_frozen BK232.out 1; have hfz52_2 := blk_frozen BK232.out 2) | ((with_reducible refine gate_callee (f := 56) rfl ?_); refine goesL_ (some 13) rfl rfl Try.func56 (by kernel_rfl) rfl #[.int .i64 (wrap64 (1 + t228))] rfl (by (try simp only [List.map_toArray, List.map_cons, List.map_nil]); first | done | rfl | (simp only [List.length_drop, List.length_take]; rfl)) ?_; (with_reducible refine (payrollref32_Bare.calls (wrap64 (1 + t228)) false _ A4.out).mono ?_); rintro e w' ⟨rfl, ⟨nd, rfl⟩⟩; refine ⟨_, rfl, ?_⟩) | ((with_reducible refine gate_callee (f := 57) rfl ?_); refine goesL_ (some 16) rfl rfl Try.func57 (by kernel_rfl) rfl #[.pointer (some ⟨g, 0, none⟩)] rfl (by (try simp only [List.map_toArray, List.map_cons, List.map_nil]); first | done | rfl | (simp only [List.length_drop, List.length_take]; rfl)) ?_; (with_reducible refine (paygen_Deck_Code.calls g s0_0 t231 t236 t237 w0 _ ?side1 ?side2 A30.out).mono ?_); (case side1 => repeat (first | (with_reducible first | exact HI0.out | apply IsS64.alloc | apply IsS64.drewN | apply IsS64.drew | apply IsS64.set_1 | refine IsS64.far ?_ NB0_227.out _ | refine IsS64.far ?_ NB0_232.out _) | exact HI0.out)); (case side2 => repeat (first | (with_reducible first | exact HB.out | apply below_alloc | apply pw_below_drewN | apply below_drew1 | refine below_set ?_ (IsS64.ge HI0.out) | refine below_set ?_ GE227.out | refine below_set ?_ GE232.out) | exact HB.out)); rintro e w53 ⟨rfl, hi, hb, hk⟩; refine ⟨_, rfl, ?_⟩; have n0_ := Aside0.mk (KeepBut.blk hk (g' := gb227) (o := .cells #[.int .i64 0, .string (⟨#[]⟩ : ByteArray), .int .i64 0] 25 (0, 0)) (by (with_reducible repeat (first | refine blk_drewN ?_ _ | refine blk_drew ?_ | refine blk_alloc ?_ _)); refine blk_far ?_ NB227_232.out _; (with_reducible repeat (first | refine blk_drewN ?_ _ | refine blk_drew ?_ | refine blk_alloc ?_ _)); refine blk_far ?_ NB227_232.out _; (with_reducible repeat (first | refine blk_drewN ?_ _ | refine blk_drew ?_ | refine blk_alloc ?_ _)); refine blk_far ?_ NB227_232.out _; (with_reducible repeat (first | refine blk_drewN ?_ _ | refine blk_drew ?_ | refine blk_alloc ?_ _)); exact BK227.out) NB227_0.out (by simp)); have n1_ := Aside0.mk (KeepBut.blk hk (g' := gb232) (o := .cells #[.int .i64 (wrap64 (1 + t228)), .string (⟨#[]⟩ : ByteArray), .int .i64 (wrap64 (1 + t230))] 25 (0, 0)) (by (with_reducible repeat (first | refine blk_drewN ?_ _ | refine blk_drew ?_ | refine blk_alloc ?_ _)); refine blk_put (cs := #[.int .i64 (wrap64 (1 + t228)), .string (⟨#[]⟩ : ByteArray), .int .i64 0]) ?_ 2 _ rfl; (with_reducible repeat (first | refine blk_drewN ?_ _ | refine blk_drew ?_ | refine blk_alloc ?_ _)); refine blk_put (cs := #[.int .i64 (wrap64 (1 + t228)), .string (⟨#[]⟩ : ByteArray), .int .i64 0]) ?_ 1 _ rfl; (with_reducible repeat (first | refine blk_drewN ?_ _ | refine blk_drew ?_ | refine blk_alloc ?_ _)); refine blk_put (cs := #[.int .i64 0, .string (⟨#[]⟩ : ByteArray), .int .i64 0]) ?_ 0 _ rfl; (with_reducible repeat (first | refine blk_drewN ?_ _ | refine blk_drew ?_ | refine blk_alloc ?_ _)); exact BK232.out) NB232_0.out (by simp)); have n2_ := Aside0.mk (KeepBut.trans (by repeat (first | (with_reducible first | exact HK.out | apply KeepBut.set_ | apply keep_drewN | apply keep_drew | apply keep_alloc | refine keep_far ?_ GW227.out _ | refine keep_far ?_ GW232.out _) | exact HK.out)) hk (.inl rfl)); have n3_ := Aside0.mk (hb); have n4_ := Aside0.mk (hi); clear BK227; clear BK232; clear HK; clear HB; clear HI0; have BK227 := n0_; have BK232 := n1_; have HK := n2_; have HB := n3_; have HI0 := n4_; clear n0_ n1_ n2_ n3_ n4_; (try clear hb); (try clear hb2); (try clear hk); (try clear hi); have hcz54_0 : w53.cell? ⟨gb232, 0, none⟩ = some (.int .i64 (wrap64 (1 + t228))) := (blk_cell BK232.out 0).trans rfl; have hcz54_1 : w53.cell? ⟨gb232, 1, none⟩ = some (.string (⟨#[]⟩ : ByteArray)) := (blk_cell BK232.out 1).trans rfl; have hcz54_2 : w53.cell? ⟨gb232, 2, none⟩ = some (.int .i64 (wrap64 (1 + t230))) := (blk_cell BK232.out 2).trans rfl; have hfz54_0 := blk_frozen BK232.out 0; have hfz54_1 := blk_frozen BK232.out 1; have hfz54_2 := blk_frozen BK232.out 2) | ((with_reducible refine gate_callee (f := 23) rfl ?_); refine goesL_ (some 19) rfl rfl Try.func23 (by kernel_rfl) rfl #[.pointer (some ⟨g, 0, none⟩), .int .i64 3] rfl (by (try simp only [List.map_toArray, List.map_cons, List.map_nil]); first | done | rfl | (simp only [List.length_drop, List.length_take]; rfl)) ?_; (with_reducible refine (paygen_Deck_Next.calls g s0_0 t237 3 t238 t239 w0 _ ?side1 ?side2 A31.out).mono ?_); (case side1 => repeat (first | (with_reducible first | exact HI0.out | apply IsS64.alloc | apply IsS64.drewN | apply IsS64.drew | apply IsS64.set_1 | refine IsS64.far ?_ NB0_227.out _ | refine IsS64.far ?_ NB0_232.out _) | exact HI0.out)); (case side2 => repeat (first | (with_reducible first | exact HB.out | apply below_alloc | apply pw_below_drewN | apply below_drew1 | refine below_set ?_ (IsS64.ge HI0.out) | refine below_set ?_ GE227.out | refine below_set ?_ GE232.out) | exact HB.out)); rintro e w55 ⟨rfl, hi, hb, hk⟩; refine ⟨_, rfl, ?_⟩; have n0_ := Aside0.mk (KeepBut.blk hk (g' := gb227) (o := .cells #[.int .i64 0, .string (⟨#[]⟩ : ByteArray), .int .i64 0] 25 (0, 0)) (by (with_reducible repeat (first | refine blk_drewN ?_ _ | refine blk_drew ?_ | refine blk_alloc ?_ _)); refine blk_far ?_ NB227_232.out _; (with_reducible repeat (first | refine blk_drewN ?_ _ | refine blk_drew ?_ | refine blk_alloc ?_ _)); exact BK227.out) NB227_0.out (by simp)); have n1_ := Aside0.mk (KeepBut.blk hk (g' := gb232) (o := .cells #[.int .i64 (wrap64 (1 + t228)), .string t236, .int .i64 (wrap64 (1 + t230))] 25 (0, 0)) (by (with_reducible repeat (first | refine blk_drewN ?_ _ | refine blk_drew ?_ | refine blk_alloc ?_ _)); refine blk_put (cs := #[.int .i64 (wrap64 (1 + t228)), .string (⟨#[]⟩ : ByteArray), .int .i64 (wrap64 (1 + t230))]) ?_ 1 _ rfl; (with_reducible repeat (first | refine blk_drewN ?_ _ | refine blk_drew ?_ | refine blk_alloc ?_ _)); exact BK232.out) NB232_0.out (by simp)); have n2_ := Aside0.mk (KeepBut.trans (by repeat (first | (with_reducible first | exact HK.out | apply KeepBut.set_ | apply keep_drewN | apply keep_drew | apply keep_alloc | refine keep_far ?_ GW227.out _ | refine keep_far ?_ GW232.out _) | exact HK.out)) hk (.inl rfl)); have n3_ := Aside0.mk (hb); have n4_ := Aside0.mk (hi); clear BK227; clear BK232; clear HK; clear HB; clear HI0; have BK227 := n0_; have BK232 := n1_; have HK := n2_; have HB := n3_; have HI0 := n4_; clear n0_ n1_ n2_ n3_ n4_; (try clear hb); (try clear hb2); (try clear hk); (try clear hi); have hcz56_0 : w55.cell? ⟨gb232, 0, none⟩ = some (.int .i64 (wrap64 (1 + t228))) := (blk_cell BK232.out 0).trans rfl; have hcz56_1 : w55.cell? ⟨gb232, 1, none⟩ = some (.string t236) := (blk_cell BK232.out 1).trans rfl; have hcz56_2 : w55.cell? ⟨gb232, 2, none⟩ = some (.int .i64 (wrap64 (1 + t230))) := (blk_cell BK232.out 2).trans rfl; have hfz56_0 := blk_frozen BK232.out 0; have hfz56_1 := blk_frozen BK232.out 1; have hfz56_2 := blk_frozen BK232.out 2; have hnb57 := NB227_0.out; have hnc57 := NB0_227.out; have hcz58_0 : w55.cell? ⟨gb227, 0, none⟩ = some (.int .i64 0) := (blk_cell BK227.out 0).trans rfl; have hcz58_1 : w55.cell? ⟨gb227, 1, none⟩ = some (.string (⟨#[]⟩ : ByteArray)) := (blk_cell BK227.out 1).trans rfl; have hcz58_2 : w55.cell? ⟨gb227, 2, none⟩ = some (.int .i64 0) := (blk_cell BK227.out 2).trans rfl; have hfz58_0 := blk_frozen BK227.out 0; have hfz58_1 := blk_frozen BK227.out 1; have hfz58_2 := blk_frozen BK227.out 2))
      refine bodyPost_ret (results_cell_row rfl _ _ gb227 25 #[.int .i64 (wrap64 (1 + t228)), .string t236, .int .i64 (wrap64 (1 + t230))] (0, 0) _ rfl (by (with_reducible repeat (first | refine blk_drewN ?_ _ | refine blk_drew ?_ | refine blk_alloc ?_ _)); refine blk_put (cs := #[.int .i64 (wrap64 (1 + t228)), .string t236, .int .i64 0]) ?_ 2 _ rfl; (with_reducible repeat (first | refine blk_drewN ?_ _ | refine blk_drew ?_ | refine blk_alloc ?_ _)); refine blk_put (cs := #[.int .i64 (wrap64 (1 + t228)), .string (⟨#[]⟩ : ByteArray), .int .i64 0]) ?_ 1 _ rfl; (with_reducible repeat (first | refine blk_drewN ?_ _ | refine blk_drew ?_ | refine blk_alloc ?_ _)); refine blk_put (cs := #[.int .i64 0, .string (⟨#[]⟩ : ByteArray), .int .i64 0]) ?_ 0 _ rfl; (with_reducible repeat (first | refine blk_drewN ?_ _ | refine blk_drew ?_ | refine blk_alloc ?_ _)); exact BK227.out) Try.underlying25 rfl (by kernel_rfl)) rfl ?_
      exact ⟨by first | rfl | (simp [errW_none, errW_some] <;> rfl) | (simp [*, errW_none, errW_some] <;> rfl), by repeat (first | (with_reducible first | exact HI0.out | apply IsS64.alloc | apply IsS64.drewN | apply IsS64.drew | apply IsS64.set_1 | refine IsS64.far ?_ NB0_227.out _ | refine IsS64.far ?_ NB0_232.out _) | exact HI0.out), by repeat (first | (with_reducible first | exact HB.out | apply below_alloc | apply pw_below_drewN | apply below_drew1 | refine below_set ?_ (IsS64.ge HI0.out) | refine below_set ?_ GE227.out | refine below_set ?_ GE232.out) | exact HB.out), by repeat (first | (with_reducible first | exact HK.out | apply KeepBut.set_ | apply keep_drewN | apply keep_drew | apply keep_alloc | refine keep_far ?_ GW227.out _ | refine keep_far ?_ GW232.out _) | exact HK.out)⟩

/-! ### paygen_Deck_Book: function 19 -/
mutual
def paygen_Deck_Book.l0 : Nat → List (S27) → Int → Int → List Int → Int → Option ((List (S27)) × Int)
  | 0, _, _, _, _, _ => none
  | k + 1, x5, x6, x7, x1000, x1001 => if x7 > 0 then ((paygen_Deck_Next.f x1000 x1001 2).bind fun bt242 => ((paygen_Deck_Next.f x1000 bt242.2 5).bind fun bt244 => (paygen_Deck_Book.l1 k x5 (wrap64 (x6 + (wrap64 (1 + bt242.1)))) x7 bt244.1 x1000 bt244.2))) else (some (x5, x1001))
def paygen_Deck_Book.l1 : Nat → List (S27) → Int → Int → Int → List Int → Int → Option ((List (S27)) × Int)
  | 0, _, _, _, _, _, _ => none
  | k + 1, x5, x6, x7, x8, x1000, x1001 => if x8 > 0 then ((paygen_Deck_Next.f x1000 x1001 3).bind fun bt246 => ((paygen_Deck_Next.f x1000 bt246.2 3).bind fun bt248 => ((paygen_Deck_Line.f x1000 bt248.2).bind fun bt250 => (if x5.length < 2513169434916 then (paygen_Deck_Book.l1 k (x5 ++ [(⟨x6, wrap64 (1 + bt246.1), bt248.1, (⟨bt250.1, bt250.2.1, bt250.2.2.1⟩ : S25)⟩ : S27)]) x6 x7 (wrap64 (x8 - 1)) x1000 bt250.2.2.2) else (none))))) else (paygen_Deck_Book.l0 k x5 x6 (wrap64 (x7 - 1)) x1000 x1001)
end
def paygen_Deck_Book.f (k : Nat) (s0_0 : List Int) (s0_1 : Int) (a1 : Int) : Option ((List (S27)) × Int) := (paygen_Deck_Next.f s0_0 s0_1 (wrap64 (a1 + 1))).bind fun bt240 => (paygen_Deck_Book.l0 k ([] : List (S27)) 0 bt240.1 s0_0 bt240.2)
theorem paygen_Deck_Book.mono_l : ∀ k, (∀ y0 y1 y2 y3 y4, LeO (paygen_Deck_Book.l0 k y0 y1 y2 y3 y4) (paygen_Deck_Book.l0 (k + 1) y0 y1 y2 y3 y4)) ∧ (∀ y0 y1 y2 y3 y4 y5, LeO (paygen_Deck_Book.l1 k y0 y1 y2 y3 y4 y5) (paygen_Deck_Book.l1 (k + 1) y0 y1 y2 y3 y4 y5))
  | 0 => ⟨fun _ _ _ _ _ r h => by simp [paygen_Deck_Book.l0] at h, fun _ _ _ _ _ _ r h => by simp [paygen_Deck_Book.l1] at h⟩
  | k + 1 => by
    obtain ⟨ih0, ih1⟩ := paygen_Deck_Book.mono_l k
    refine ⟨?_, ?_⟩
    · intro y0 y1 y2 y3 y4
      unfold paygen_Deck_Book.l0
      repeat' first
      | (with_reducible exact ih0 _ _ _ _ _)
      | (with_reducible exact ih1 _ _ _ _ _ _)
      | (with_reducible exact LeO.refl _)
      | (with_reducible exact LeO.none _)
      | (with_reducible refine LeO.ite ?_ ?_)
      | (with_reducible refine LeO.bind ?_ (fun _ => ?_))
      | exact ih0 _ _ _ _ _
      | exact ih1 _ _ _ _ _ _
      | exact LeO.none _
      | refine LeO.ite ?_ ?_
      | refine LeO.bind ?_ (fun _ => ?_)
    · intro y0 y1 y2 y3 y4 y5
      unfold paygen_Deck_Book.l1
      repeat' first
      | (with_reducible exact ih0 _ _ _ _ _)
      | (with_reducible exact ih1 _ _ _ _ _ _)
      | (with_reducible exact LeO.refl _)
      | (with_reducible exact LeO.none _)
      | (with_reducible refine LeO.ite ?_ ?_)
      | (with_reducible refine LeO.bind ?_ (fun _ => ?_))
      | exact ih0 _ _ _ _ _
      | exact ih1 _ _ _ _ _ _
      | exact LeO.none _
      | refine LeO.ite ?_ ?_
      | refine LeO.bind ?_ (fun _ => ?_)
theorem paygen_Deck_Book.mono : ∀ a0 a1 a2 k, LeO (paygen_Deck_Book.f k a0 a1 a2) (paygen_Deck_Book.f (k + 1) a0 a1 a2) := by
  intro a0 a1 a2 k
  obtain ⟨ih0, ih1⟩ := paygen_Deck_Book.mono_l k
  unfold paygen_Deck_Book.f
  repeat' first
      | (with_reducible exact ih0 _ _ _ _ _)
      | (with_reducible exact ih1 _ _ _ _ _ _)
      | (with_reducible exact LeO.refl _)
      | (with_reducible exact LeO.none _)
      | (with_reducible refine LeO.ite ?_ ?_)
      | (with_reducible refine LeO.bind ?_ (fun _ => ?_))
      | exact ih0 _ _ _ _ _
      | exact ih1 _ _ _ _ _ _
      | exact LeO.none _
      | refine LeO.ite ?_ ?_
      | refine LeO.bind ?_ (fun _ => ?_)
set_option maxHeartbeats 8000000 in
set_option maxRecDepth 100000 in
theorem paygen_Deck_Book.calls (k : Nat) (g : Nat) (s0_0 : List Int) (s0_1 : Int) (a1 : Int) (r1 : List (S27)) (r2 : Int) (w0 w : World) (hI : IsS64 w0 w g s0_0 s0_1) (hB : Below w0.heap.size w0 w) (h : paygen_Deck_Book.f k s0_0 s0_1 a1 = some (r1, r2)) :
    Calls Try.prog 19 #[.pointer (some ⟨g, 0, none⟩), .int .i64 a1] w fun e w' => ∃ v0_ : Value, e = .returned (v0_) ∧ Kd.R k27 27 w' w.heap.size (fun _ => True) v0_ r1 ∧ IsS64 w0 w' g s0_0 r2 ∧ Below w0.heap.size w0 w' ∧ KeepBut w w' g none := by
  have hu27 := Try.underlying27
  have HI0 := Aside0.mk hI
  have HK := Aside0.mk (KeepBut.refl w g none)
  have HL := Aside0.mk hB.size
  clear hI
  have HW0 := Aside0.mk hB.size
  have HB := Aside0.mk hB
  clear hB
  have H : ((paygen_Deck_Next.f s0_0 s0_1 (wrap64 (a1 + 1))).bind fun bt240 => (paygen_Deck_Book.l0 k ([] : List (S27)) 0 bt240.1 s0_0 bt240.2)) = some (r1, r2) := h
  clear h
  replace H := Option.bind_eq_some_iff.mp H
  obtain ⟨⟨t240, t241⟩, A30, H⟩ := H
  replace H : (paygen_Deck_Book.l0 k ([] : List (S27)) 0 t240 s0_0 t241) = some (r1, r2) := H
  have A3 := Aside0.mk A30
  clear A30
  have H' := Aside0.mk H
  clear H
  go_enter Try.func19, Try.ntmps19
  go_wp2_with (first | ((with_reducible refine gate_callee (f := 23) rfl ?_); refine goesL_ (some 12) rfl rfl Try.func23 (by kernel_rfl) rfl #[.pointer (some ⟨g, 0, none⟩), .int .i64 (wrap64 (a1 + 1))] rfl (by (try simp only [List.map_toArray, List.map_cons, List.map_nil]); first | done | rfl | (simp only [List.length_drop, List.length_take]; rfl)) ?_; (with_reducible refine (paygen_Deck_Next.calls g s0_0 s0_1 (wrap64 (a1 + 1)) t240 t241 w0 _ ?side1 ?side2 A3.out).mono ?_); (case side1 => repeat (first | (with_reducible first | exact HI0.out | apply IsS64.alloc | apply IsS64.drewN | apply IsS64.drew | apply IsS64.set_1) | exact HI0.out)); (case side2 => repeat (first | (with_reducible first | exact HB.out | apply below_alloc | apply pw_below_drewN | apply below_drew1 | refine below_set ?_ (IsS64.ge HI0.out)) | exact HB.out)); rintro e w4 ⟨rfl, hi, hb, hk⟩; refine ⟨_, rfl, ?_⟩; have n0_ := Aside0.mk (KeepBut.trans (by repeat (first | (with_reducible first | exact HK.out | apply KeepBut.set_ | apply keep_drewN | apply keep_drew | apply keep_alloc) | exact HK.out)) hk (.inl rfl)); have n1_ := Aside0.mk (hb); have n2_ := Aside0.mk (hi); clear HK; clear HB; clear HI0; have HK := n0_; have HB := n1_; have HI0 := n2_; clear n0_ n1_ n2_; (try clear hb); (try clear hb2); (try clear hk); (try clear hi)))
  go_loopg [5, 6, 7] k (fun kq v5 v6 v7 w' => ∃ (x5_1 : List (S27)) (x6_1 : Int) (x7_1 : Int) (x1001_1 : Int), v6 = .int .i64 x6_1 ∧ v7 = .int .i64 x7_1 ∧ Aside0 (paygen_Deck_Book.l0 kq x5_1 x6_1 x7_1 s0_0 x1001_1 = some (r1, r2)) ∧ Aside0 (kq ≤ k) ∧ Aside0 (Kd.R k27 27 w' w.heap.size (fun _ => True) v5 x5_1) ∧ Aside0 (IsS64 w0 w' g s0_0 x1001_1) ∧ Aside0 (KeepBut w w' g none) ∧ Aside0 (Below w0.heap.size w0 w'))
  case atStart => exact ⟨(([] : List (S27))), (0), (t240), (t241), (by first | rfl | (simp; done) | (simp [*]; done)), (by first | rfl | (simp; done) | (simp [*]; done)), H', ⟨Nat.le_refl _⟩, ⟨by first | exact Kd.R_nil _ _ _ _ _ | exact Kd.N_nil _ _ _ _ _ | exact Kd.V_nil _ _ _ _ _ | exact Kd.Q_nil _ _ _ _ _ | exact Kd.S_nil _ _ _ _ _⟩, ⟨by repeat (first | (with_reducible first | exact HI0.out | apply IsS64.alloc | apply IsS64.drewN | apply IsS64.drew | apply IsS64.set_1) | exact HI0.out)⟩, ⟨by repeat (first | (with_reducible first | exact HK.out | apply KeepBut.set_ | apply keep_drewN | apply keep_drew | apply keep_alloc) | exact HK.out)⟩, ⟨by repeat (first | (with_reducible first | exact HB.out | apply below_alloc | apply pw_below_drewN | apply below_drew1 | refine below_set ?_ (IsS64.ge HI0.out)) | exact HB.out)⟩⟩
  case round =>
    clear H'
    try clear c1
    try clear c2
    try clear p2
    obtain ⟨x5_1, x6_1, x7_1, x1001_1, rfl, rfl, HA, HK1, HO_5, HI0, HK, HB⟩ := hrel
    cases gk with
    | zero => exact absurd HA.out (by simp [paygen_Deck_Book.l0])
    | succ k1 =>
      have H := HA.out
      clear HA
      simp only [paygen_Deck_Book.l0] at H
      by_cases c5 : x7_1 > 0
      · rw [if_pos c5] at H
        have c5b0 : decide (0 < x7_1) = true := decide_eq_true c5
        clear c5
        replace H := Option.bind_eq_some_iff.mp H
        obtain ⟨⟨t242, t243⟩, A60, H⟩ := H
        replace H : ((paygen_Deck_Next.f s0_0 t243 5).bind fun bt244 => (paygen_Deck_Book.l1 k1 x5_1 (wrap64 (x6_1 + (wrap64 (1 + t242)))) x7_1 bt244.1 s0_0 bt244.2)) = some (r1, r2) := H
        have A6 := Aside0.mk A60
        clear A60
        replace H := Option.bind_eq_some_iff.mp H
        obtain ⟨⟨t244, t245⟩, A70, H⟩ := H
        replace H : (paygen_Deck_Book.l1 k1 x5_1 (wrap64 (x6_1 + (wrap64 (1 + t242)))) x7_1 t244 s0_0 t245) = some (r1, r2) := H
        have A7 := Aside0.mk A70
        clear A70
        have H' := Aside0.mk H
        clear H
        go_wp2_with (first | ((with_reducible refine gate_callee (f := 23) rfl ?_); refine goesL_ (some 19) rfl rfl Try.func23 (by kernel_rfl) rfl #[.pointer (some ⟨g, 0, none⟩), .int .i64 2] rfl (by (try simp only [List.map_toArray, List.map_cons, List.map_nil]); first | done | rfl | (simp only [List.length_drop, List.length_take]; rfl)) ?_; (with_reducible refine (paygen_Deck_Next.calls g s0_0 x1001_1 2 t242 t243 w0 _ ?side1 ?side2 A6.out).mono ?_); (case side1 => repeat (first | (with_reducible first | exact HI0.out | apply IsS64.alloc | apply IsS64.drewN | apply IsS64.drew | apply IsS64.set_1) | exact HI0.out)); (case side2 => repeat (first | (with_reducible first | exact HB.out | apply below_alloc | apply pw_below_drewN | apply below_drew1 | refine below_set ?_ (IsS64.ge HI0.out)) | exact HB.out)); rintro e w8 ⟨rfl, hi, hb, hk⟩; refine ⟨_, rfl, ?_⟩; have n0_ := Aside0.mk (Kd.R_mono (Kd.R_keep (IsS64.apart (show IsS64 w0 _ g s0_0 x1001_1 from by repeat (first | (with_reducible first | exact HI0.out | apply IsS64.alloc | apply IsS64.drewN | apply IsS64.drew | apply IsS64.set_1) | exact HI0.out)) (by (with_reducible repeat (first | apply Kd.R_alloc | apply Kd.R_drewN | apply Kd.R_drew)); exact HO_5.out) (by decide)) hk (fun _ h => h.2)) (fun _ h => h.1)); have n1_ := Aside0.mk (KeepBut.trans (by repeat (first | (with_reducible first | exact HK.out | apply KeepBut.set_ | apply keep_drewN | apply keep_drew | apply keep_alloc) | exact HK.out)) hk (.inl rfl)); have n2_ := Aside0.mk (hb); have n3_ := Aside0.mk (hi); clear HO_5; clear HK; clear HB; clear HI0; have HO_5 := n0_; have HK := n1_; have HB := n2_; have HI0 := n3_; clear n0_ n1_ n2_ n3_; (try clear hb); (try clear hb2); (try clear hk); (try clear hi)) | ((with_reducible refine gate_callee (f := 23) rfl ?_); refine goesL_ (some 23) rfl rfl Try.func23 (by kernel_rfl) rfl #[.pointer (some ⟨g, 0, none⟩), .int .i64 5] rfl (by (try simp only [List.map_toArray, List.map_cons, List.map_nil]); first | done | rfl | (simp only [List.length_drop, List.length_take]; rfl)) ?_; (with_reducible refine (paygen_Deck_Next.calls g s0_0 t243 5 t244 t245 w0 _ ?side1 ?side2 A7.out).mono ?_); (case side1 => repeat (first | (with_reducible first | exact HI0.out | apply IsS64.alloc | apply IsS64.drewN | apply IsS64.drew | apply IsS64.set_1) | exact HI0.out)); (case side2 => repeat (first | (with_reducible first | exact HB.out | apply below_alloc | apply pw_below_drewN | apply below_drew1 | refine below_set ?_ (IsS64.ge HI0.out)) | exact HB.out)); rintro e w9 ⟨rfl, hi, hb, hk⟩; refine ⟨_, rfl, ?_⟩; have n0_ := Aside0.mk (Kd.R_mono (Kd.R_keep (IsS64.apart (show IsS64 w0 _ g s0_0 t243 from by repeat (first | (with_reducible first | exact HI0.out | apply IsS64.alloc | apply IsS64.drewN | apply IsS64.drew | apply IsS64.set_1) | exact HI0.out)) (by (with_reducible repeat (first | apply Kd.R_alloc | apply Kd.R_drewN | apply Kd.R_drew)); exact HO_5.out) (by decide)) hk (fun _ h => h.2)) (fun _ h => h.1)); have n1_ := Aside0.mk (KeepBut.trans (by repeat (first | (with_reducible first | exact HK.out | apply KeepBut.set_ | apply keep_drewN | apply keep_drew | apply keep_alloc) | exact HK.out)) hk (.inl rfl)); have n2_ := Aside0.mk (hb); have n3_ := Aside0.mk (hi); clear HO_5; clear HK; clear HB; clear HI0; have HO_5 := n0_; have HK := n1_; have HB := n2_; have HI0 := n3_; clear n0_ n1_ n2_ n3_; (try clear hb); (try clear hb2); (try clear hk); (try clear hi)))
        go_loopg [5, 8] k1 (fun kq v5 v8 w' => ∃ (x5_2 : List (S27)) (x8_2 : Int) (x1001_2 : Int), v8 = .int .i64 x8_2 ∧ Aside0 (paygen_Deck_Book.l1 kq x5_2 (wrap64 (x6_1 + (wrap64 (1 + t242)))) x7_1 x8_2 s0_0 x1001_2 = some (r1, r2)) ∧ Aside0 (kq ≤ k1) ∧ Aside0 (Kd.R k27 27 w' w.heap.size (fun _ => True) v5 x5_2) ∧ Aside0 (IsS64 w0 w' g s0_0 x1001_2) ∧ Aside0 (KeepBut w w' g none) ∧ Aside0 (Below w0.heap.size w0 w'))
        case atStart => exact ⟨(x5_1), (t244), (t245), (by first | rfl | (simp; done) | (simp [*]; done)), H', ⟨Nat.le_refl _⟩, ⟨by (with_reducible repeat (first | apply Kd.R_alloc | apply Kd.R_drewN | apply Kd.R_drew)); exact HO_5.out⟩, ⟨by repeat (first | (with_reducible first | exact HI0.out | apply IsS64.alloc | apply IsS64.drewN | apply IsS64.drew | apply IsS64.set_1) | exact HI0.out)⟩, ⟨by repeat (first | (with_reducible first | exact HK.out | apply KeepBut.set_ | apply keep_drewN | apply keep_drew | apply keep_alloc) | exact HK.out)⟩, ⟨by repeat (first | (with_reducible first | exact HB.out | apply below_alloc | apply pw_below_drewN | apply below_drew1 | refine below_set ?_ (IsS64.ge HI0.out)) | exact HB.out)⟩⟩
        case round =>
          clear H'
          try clear c1
          try clear c2
          try clear p2
          try clear c5
          try clear c5b0
          try clear p6
          try clear p2
          obtain ⟨x5_2, x8_2, x1001_2, rfl, HA, HK2, HO_5, HI0, HK, HB⟩ := hrel
          cases gk with
          | zero => exact absurd HA.out (by simp [paygen_Deck_Book.l1])
          | succ k2 =>
            have H := HA.out
            clear HA
            simp only [paygen_Deck_Book.l1] at H
            by_cases c10 : x8_2 > 0
            · rw [if_pos c10] at H
              have c10b0 : decide (0 < x8_2) = true := decide_eq_true c10
              clear c10
              replace H := Option.bind_eq_some_iff.mp H
              obtain ⟨⟨t246, t247⟩, A110, H⟩ := H
              replace H : ((paygen_Deck_Next.f s0_0 t247 3).bind fun bt248 => ((paygen_Deck_Line.f s0_0 bt248.2).bind fun bt250 => (if x5_2.length < 2513169434916 then (paygen_Deck_Book.l1 k2 (x5_2 ++ [(⟨(wrap64 (x6_1 + (wrap64 (1 + t242)))), wrap64 (1 + t246), bt248.1, (⟨bt250.1, bt250.2.1, bt250.2.2.1⟩ : S25)⟩ : S27)]) (wrap64 (x6_1 + (wrap64 (1 + t242)))) x7_1 (wrap64 (x8_2 - 1)) s0_0 bt250.2.2.2) else (none)))) = some (r1, r2) := H
              have A11 := Aside0.mk A110
              clear A110
              replace H := Option.bind_eq_some_iff.mp H
              obtain ⟨⟨t248, t249⟩, A120, H⟩ := H
              replace H : ((paygen_Deck_Line.f s0_0 t249).bind fun bt250 => (if x5_2.length < 2513169434916 then (paygen_Deck_Book.l1 k2 (x5_2 ++ [(⟨(wrap64 (x6_1 + (wrap64 (1 + t242)))), wrap64 (1 + t246), t248, (⟨bt250.1, bt250.2.1, bt250.2.2.1⟩ : S25)⟩ : S27)]) (wrap64 (x6_1 + (wrap64 (1 + t242)))) x7_1 (wrap64 (x8_2 - 1)) s0_0 bt250.2.2.2) else (none))) = some (r1, r2) := H
              have A12 := Aside0.mk A120
              clear A120
              replace H := Option.bind_eq_some_iff.mp H
              obtain ⟨⟨t250, t251, t252, t253⟩, A130, H⟩ := H
              replace H : (if x5_2.length < 2513169434916 then (paygen_Deck_Book.l1 k2 (x5_2 ++ [(⟨(wrap64 (x6_1 + (wrap64 (1 + t242)))), wrap64 (1 + t246), t248, (⟨t250, t251, t252⟩ : S25)⟩ : S27)]) (wrap64 (x6_1 + (wrap64 (1 + t242)))) x7_1 (wrap64 (x8_2 - 1)) s0_0 t253) else (none)) = some (r1, r2) := H
              have A13 := Aside0.mk A130
              clear A130
              by_cases c14 : x5_2.length < 2513169434916
              · rw [if_pos c14] at H
                have LMc14 := Aside0.mk c14
                clear c14
                obtain ⟨y254, hy254⟩ : ∃ y_ : List (S27), y_ = (x5_2 ++ [(⟨(wrap64 (x6_1 + (wrap64 (1 + t242)))), wrap64 (1 + t246), t248, (⟨t250, t251, t252⟩ : S25)⟩ : S27)]) := ⟨_, rfl⟩
                replace H : (paygen_Deck_Book.l1 k2 y254 (wrap64 (x6_1 + (wrap64 (1 + t242)))) x7_1 (wrap64 (x8_2 - 1)) s0_0 t253) = some (r1, r2) := by first | (rw [hy254]; with_reducible exact H) | (have H2_ := (Option.bind_some _ _).symm.trans H; rw [hy254]; with_reducible exact H2_) | (have H2_ := (Option.bind_some _ _).symm.trans H; with_reducible exact H2_) | with_reducible exact H | (rw [hy254]; exact H) | exact H
                have Ny254 := Aside0.mk hy254
                clear hy254
                have H' := Aside0.mk H
                clear H
                go_wp2_with (first | ((with_reducible refine gate_callee (f := 23) rfl ?_); refine goesL_ (some 31) rfl rfl Try.func23 (by kernel_rfl) rfl #[.pointer (some ⟨g, 0, none⟩), .int .i64 3] rfl (by (try simp only [List.map_toArray, List.map_cons, List.map_nil]); first | done | rfl | (simp only [List.length_drop, List.length_take]; rfl)) ?_; (with_reducible refine (paygen_Deck_Next.calls g s0_0 x1001_2 3 t246 t247 w0 _ ?side1 ?side2 A11.out).mono ?_); (case side1 => repeat (first | (with_reducible first | exact HI0.out | apply IsS64.alloc | apply IsS64.drewN | apply IsS64.drew | apply IsS64.set_1) | exact HI0.out)); (case side2 => repeat (first | (with_reducible first | exact HB.out | apply below_alloc | apply pw_below_drewN | apply below_drew1 | refine below_set ?_ (IsS64.ge HI0.out)) | exact HB.out)); rintro e w15 ⟨rfl, hi, hb, hk⟩; refine ⟨_, rfl, ?_⟩; have n0_ := Aside0.mk (Kd.R_mono (Kd.R_keep (IsS64.apart (show IsS64 w0 _ g s0_0 x1001_2 from by repeat (first | (with_reducible first | exact HI0.out | apply IsS64.alloc | apply IsS64.drewN | apply IsS64.drew | apply IsS64.set_1) | exact HI0.out)) (by (with_reducible repeat (first | apply Kd.R_alloc | apply Kd.R_drewN | apply Kd.R_drew)); exact HO_5.out) (by decide)) hk (fun _ h => h.2)) (fun _ h => h.1)); have n1_ := Aside0.mk (KeepBut.trans (by repeat (first | (with_reducible first | exact HK.out | apply KeepBut.set_ | apply keep_drewN | apply keep_drew | apply keep_alloc) | exact HK.out)) hk (.inl rfl)); have n2_ := Aside0.mk (hb); have n3_ := Aside0.mk (hi); clear HO_5; clear HK; clear HB; clear HI0; have HO_5 := n0_; have HK := n1_; have HB := n2_; have HI0 := n3_; clear n0_ n1_ n2_ n3_; (try clear hb); (try clear hb2); (try clear hk); (try clear hi)) | ((with_reducible refine gate_callee (f := 23) rfl ?_); refine goesL_ (some 34) rfl rfl Try.func23 (by kernel_rfl) rfl #[.pointer (some ⟨g, 0, none⟩), .int .i64 3] rfl (by (try simp only [List.map_toArray, List.map_cons, List.map_nil]); first | done | rfl | (simp only [List.length_drop, List.length_take]; rfl)) ?_; (with_reducible refine (paygen_Deck_Next.calls g s0_0 t247 3 t248 t249 w0 _ ?side1 ?side2 A12.out).mono ?_); (case side1 => repeat (first | (with_reducible first | exact HI0.out | apply IsS64.alloc | apply IsS64.drewN | apply IsS64.drew | apply IsS64.set_1) | exact HI0.out)); (case side2 => repeat (first | (with_reducible first | exact HB.out | apply below_alloc | apply pw_below_drewN | apply below_drew1 | refine below_set ?_ (IsS64.ge HI0.out)) | exact HB.out)); rintro e w16 ⟨rfl, hi, hb, hk⟩; refine ⟨_, rfl, ?_⟩; have n0_ := Aside0.mk (Kd.R_mono (Kd.R_keep (IsS64.apart (show IsS64 w0 _ g s0_0 t247 from by repeat (first | (with_reducible first | exact HI0.out | apply IsS64.alloc | apply IsS64.drewN | apply IsS64.drew | apply IsS64.set_1) | exact HI0.out)) (by (with_reducible repeat (first | apply Kd.R_alloc | apply Kd.R_drewN | apply Kd.R_drew)); exact HO_5.out) (by decide)) hk (fun _ h => h.2)) (fun _ h => h.1)); have n1_ := Aside0.mk (KeepBut.trans (by repeat (first | (with_reducible first | exact HK.out | apply KeepBut.set_ | apply keep_drewN | apply keep_drew | apply keep_alloc) | exact HK.out)) hk (.inl rfl)); have n2_ := Aside0.mk (hb); have n3_ := Aside0.mk (hi); clear HO_5; clear HK; clear HB; clear HI0; have HO_5 := n0_; have HK := n1_; have HB := n2_; have HI0 := n3_; clear n0_ n1_ n2_ n3_; (try clear hb); (try clear hb2); (try clear hk); (try clear hi)) | ((with_reducible refine gate_callee (f := 44) rfl ?_); refine goesL_ (some 36) rfl rfl Try.func44 (by kernel_rfl) rfl #[.pointer (some ⟨g, 0, none⟩)] rfl (by (try simp only [List.map_toArray, List.map_cons, List.map_nil]); first | done | rfl | (simp only [List.length_drop, List.length_take]; rfl)) ?_; (with_reducible refine (paygen_Deck_Line.calls g s0_0 t249 t250 t251 t252 t253 w0 _ ?side1 ?side2 A13.out).mono ?_); (case side1 => repeat (first | (with_reducible first | exact HI0.out | apply IsS64.alloc | apply IsS64.drewN | apply IsS64.drew | apply IsS64.set_1) | exact HI0.out)); (case side2 => repeat (first | (with_reducible first | exact HB.out | apply below_alloc | apply pw_below_drewN | apply below_drew1 | refine below_set ?_ (IsS64.ge HI0.out)) | exact HB.out)); rintro e w17 ⟨rfl, hi, hb, hk⟩; refine ⟨_, rfl, ?_⟩; have n0_ := Aside0.mk (Kd.R_mono (Kd.R_keep (IsS64.apart (show IsS64 w0 _ g s0_0 t249 from by repeat (first | (with_reducible first | exact HI0.out | apply IsS64.alloc | apply IsS64.drewN | apply IsS64.drew | apply IsS64.set_1) | exact HI0.out)) (by (with_reducible repeat (first | apply Kd.R_alloc | apply Kd.R_drewN | apply Kd.R_drew)); exact HO_5.out) (by decide)) hk (fun _ h => h.2)) (fun _ h => h.1)); have n1_ := Aside0.mk (KeepBut.trans (by repeat (first | (with_reducible first | exact HK.out | apply KeepBut.set_ | apply keep_drewN | apply keep_drew | apply keep_alloc) | exact HK.out)) hk (.inl rfl)); have n2_ := Aside0.mk (hb); have n3_ := Aside0.mk (hi); clear HO_5; clear HK; clear HB; clear HI0; have HO_5 := n0_; have HK := n1_; have HB := n2_; have HI0 := n3_; clear n0_ n1_ n2_ n3_; (try clear hb); (try clear hb2); (try clear hk); (try clear hi)) | ((with_reducible refine gate_builtin (b := .append) (xs := #[.tmp 28, .tmp 38]) rfl ?_); at_builtin; refine Kd.R_append k27 w.heap.size rfl (.tmp 28) (.tmp 38) 23 27 (.agg #[(.int .i64 0), (.int .i64 0), (.int .i64 0), (.int .i64 0), (.string ⟨#[]⟩), (.int .i64 0)]) 56 rfl Try.underlying23 info27 rfl (by decide) (by omega) u5 x5_2 (⟨(wrap64 (x6_1 + (wrap64 (1 + t242)))), wrap64 (1 + t246), t248, (⟨t250, t251, t252⟩ : S25)⟩ : S27) [.int .i64 (wrap64 (x6_1 + (wrap64 (1 + t242)))), .int .i64 (wrap64 (1 + t246)), .int .i64 t248, .int .i64 t250, .string t251, .int .i64 t252] (fun _ => True) (fun _ => False) rfl rfl ?aP (fun _ hk => hk.elim) ?aF ?aO (Below.refl _ _) ?aS ?aL ?_; (case aP => exact k27_mkM _ _ _ (⟨(wrap64 (x6_1 + (wrap64 (1 + t242)))), wrap64 (1 + t246), t248, (⟨t250, t251, t252⟩ : S25)⟩ : S27)); (case aF => exact (fun _ _ => trivial)); (case aO => exact (by (with_reducible repeat (first | apply Kd.R_alloc | apply Kd.R_drewN | apply Kd.R_drew)); exact HO_5.out)); (case aS => exact (keep_size (w := w) (g := g) (row := none) (by repeat (first | (with_reducible first | exact HK.out | apply KeepBut.set_ | apply keep_drewN | apply keep_drew | apply keep_alloc) | exact HK.out)))); (case aL => have := LMc14.out; omega); intro v255 w18 ho hb hg hat; rw [← Ny254.out] at ho; have n0_ := Aside0.mk (IsS64.grown (by repeat (first | (with_reducible first | exact HI0.out | apply IsS64.alloc | apply IsS64.drewN | apply IsS64.drew | apply IsS64.set_1) | exact HI0.out)) hg (IsS64.own_ne HI0.out HO_5.out (by decide))); have n1_ := Aside0.mk (below_weaken (by repeat (first | (with_reducible first | exact HB.out | apply below_alloc | apply pw_below_drewN | apply below_drew1 | refine below_set ?_ (IsS64.ge HI0.out)) | exact HB.out)) HL.out hb); have n2_ := Aside0.mk (KeepBut.trans (by repeat (first | (with_reducible first | exact HK.out | apply KeepBut.set_ | apply keep_drewN | apply keep_drew | apply keep_alloc) | exact HK.out)) (KeepBut.of_grown hg g) (Kd.R_base2 HO_5.out)); have n3_ := Aside0.mk (ho); clear HI0; clear HB; clear HK; clear HO_5; have HI0 := n0_; have HB := n1_; have HK := n2_; have HO256 := n3_; clear n0_ n1_ n2_ n3_; clear ho hb hg hat))
                go_roundg k2
                case measure => have := HK1.out; have := HK2.out; omega
                case rel => exact ⟨(y254), (wrap64 (x8_2 - 1)), (t253), (by first | rfl | (simp; done) | (simp [*]; done)), H', ⟨by have := HK1.out; have := HK2.out; omega⟩, ⟨by (with_reducible repeat (first | apply Kd.R_alloc | apply Kd.R_drewN | apply Kd.R_drew)); exact HO256.out⟩, ⟨by repeat (first | (with_reducible first | exact HI0.out | apply IsS64.alloc | apply IsS64.drewN | apply IsS64.drew | apply IsS64.set_1) | exact HI0.out)⟩, ⟨by repeat (first | (with_reducible first | exact HK.out | apply KeepBut.set_ | apply keep_drewN | apply keep_drew | apply keep_alloc) | exact HK.out)⟩, ⟨by repeat (first | (with_reducible first | exact HB.out | apply below_alloc | apply pw_below_drewN | apply below_drew1 | refine below_set ?_ (IsS64.ge HI0.out)) | exact HB.out)⟩⟩
              · rw [if_neg c14] at H
                exact absurd H (by simp)
            · rw [if_neg c10] at H
              have c10b0 : decide (0 < x8_2) = false := decide_eq_false c10
              clear c10
              have H' := Aside0.mk H
              clear H
              go_wp2
              go_roundg k2
              case measure => have := HK1.out; have := HK2.out; omega
              case rel => exact ⟨(x5_2), ((wrap64 (x6_1 + (wrap64 (1 + t242))))), (wrap64 (x7_1 - 1)), (x1001_2), (by first | rfl | (simp; done) | (simp [*]; done)), (by first | rfl | (simp; done) | (simp [*]; done)), H', ⟨by have := HK1.out; have := HK2.out; omega⟩, ⟨by (with_reducible repeat (first | apply Kd.R_alloc | apply Kd.R_drewN | apply Kd.R_drew)); exact HO_5.out⟩, ⟨by repeat (first | (with_reducible first | exact HI0.out | apply IsS64.alloc | apply IsS64.drewN | apply IsS64.drew | apply IsS64.set_1) | exact HI0.out)⟩, ⟨by repeat (first | (with_reducible first | exact HK.out | apply KeepBut.set_ | apply keep_drewN | apply keep_drew | apply keep_alloc) | exact HK.out)⟩, ⟨by repeat (first | (with_reducible first | exact HB.out | apply below_alloc | apply pw_below_drewN | apply below_drew1 | refine below_set ?_ (IsS64.ge HI0.out)) | exact HB.out)⟩⟩
      · rw [if_neg c5] at H
        have c5b0 : decide (0 < x7_1) = false := decide_eq_false c5
        clear c5
        simp only [Option.some.injEq, Prod.mk.injEq] at H
        obtain ⟨rfl, rfl⟩ := H
        go_wp2
        go_ret
        exact ⟨_, by first | rfl | (simp [errW_none, errW_some] <;> rfl) | (simp [*, errW_none, errW_some] <;> rfl), by (with_reducible repeat (first | apply Kd.R_alloc | apply Kd.R_drewN | apply Kd.R_drew)); exact HO_5.out, by repeat (first | (with_reducible first | exact HI0.out | apply IsS64.alloc | apply IsS64.drewN | apply IsS64.drew | apply IsS64.set_1) | exact HI0.out), by repeat (first | (with_reducible first | exact HB.out | apply below_alloc | apply pw_below_drewN | apply below_drew1 | refine below_set ?_ (IsS64.ge HI0.out)) | exact HB.out), by repeat (first | (with_reducible first | exact HK.out | apply KeepBut.set_ | apply keep_drewN | apply keep_drew | apply keep_alloc) | exact HK.out)⟩

/-! ### payrollref17_lower: function 101 -/
def payrollref17_lower.f (a0 : Int) : Option (Bool) := if a0 ≥ 97 then (some (decide (a0 ≤ 122))) else (some false)
set_option maxHeartbeats 8000000 in
set_option maxRecDepth 100000 in
theorem payrollref17_lower.calls (a0 : Int) (r : Bool) (w : World) (h : payrollref17_lower.f a0 = some r) :
    Calls Try.prog 101 #[.int .u8 a0] w fun e w' => e = .returned (.bool r) ∧ Drawn0 w w' := by
  have H : (if a0 ≥ 97 then (some (decide (a0 ≤ 122))) else (some false)) = some r := h
  clear h
  by_cases c2 : a0 ≥ 97
  · rw [if_pos c2] at H
    have c2b0 : decide (97 ≤ a0) = true := decide_eq_true c2
    clear c2
    obtain rfl := Option.some.inj H
    go_enter Try.func101, Try.ntmps101
    go_wp2
    go_ret
    exact ⟨by first | rfl | (simp; done) | (simp [*]; done), by repeat (first | exact Drawn0.refl _ | apply Drawn0.step)⟩
  · rw [if_neg c2] at H
    have c2b0 : decide (97 ≤ a0) = false := decide_eq_false c2
    clear c2
    obtain rfl := Option.some.inj H
    go_enter Try.func101, Try.ntmps101
    go_wp2
    go_ret
    exact ⟨by first | rfl | (simp; done) | (simp [*]; done), by repeat (first | exact Drawn0.refl _ | apply Drawn0.step)⟩

/-! ### payrollref17_digit: function 102 -/
def payrollref17_digit.f (a0 : Int) : Option (Bool) := if a0 ≥ 48 then (some (decide (a0 ≤ 57))) else (some false)
set_option maxHeartbeats 8000000 in
set_option maxRecDepth 100000 in
theorem payrollref17_digit.calls (a0 : Int) (r : Bool) (w : World) (h : payrollref17_digit.f a0 = some r) :
    Calls Try.prog 102 #[.int .u8 a0] w fun e w' => e = .returned (.bool r) ∧ Drawn0 w w' := by
  have H : (if a0 ≥ 48 then (some (decide (a0 ≤ 57))) else (some false)) = some r := h
  clear h
  by_cases c2 : a0 ≥ 48
  · rw [if_pos c2] at H
    have c2b0 : decide (48 ≤ a0) = true := decide_eq_true c2
    clear c2
    obtain rfl := Option.some.inj H
    go_enter Try.func102, Try.ntmps102
    go_wp2
    go_ret
    exact ⟨by first | rfl | (simp; done) | (simp [*]; done), by repeat (first | exact Drawn0.refl _ | apply Drawn0.step)⟩
  · rw [if_neg c2] at H
    have c2b0 : decide (48 ≤ a0) = false := decide_eq_false c2
    clear c2
    obtain rfl := Option.some.inj H
    go_enter Try.func102, Try.ntmps102
    go_wp2
    go_ret
    exact ⟨by first | rfl | (simp; done) | (simp [*]; done), by repeat (first | exact Drawn0.refl _ | apply Drawn0.step)⟩

end Go.Proofs.Ytelmnkmpkljboaa.Q
