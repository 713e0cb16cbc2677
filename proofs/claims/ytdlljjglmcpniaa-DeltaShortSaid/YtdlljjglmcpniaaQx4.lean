-- Printed by wip/xprint.py over the translation, with contracts proved by hand among them. Lean checks it.
import Derived.Test.YtdlljjglmcpniaaQx0
import Derived.Test.YtdlljjglmcpniaaQx3
namespace Go.Proofs.Ytdlljjglmcpniaa.Q
open Go.RowKit Go.Proofs.YtdlljjglmcpniaaW.PrintWords Go.Proofs.YtdlljjglmcpniaaW.PrintLast Go.Proofs.YtdlljjglmcpniaaW.PrintMore
attribute [local go_sem] max2_int min2_int max_two min_two max_three min_three max_four min_four   -- for this text's walks alone
set_option linter.unusedVariables false
set_option linter.unusedSimpArgs false

/-! ### cmp_isNaN_string: function 91 -/
def cmp_isNaN_string.f (a0 : ByteArray) : Option (Bool) := some (a0.toList != a0.toList)
set_option maxHeartbeats 8000000 in
set_option maxRecDepth 100000 in
theorem cmp_isNaN_string.calls (a0 : ByteArray) (r : Bool) (w : World) (h : cmp_isNaN_string.f a0 = some r) :
    Calls Try.prog 91 #[.string a0] w fun e w' => e = .returned (.bool r) ∧ Drawn0 w w' := by
  have H : (some (a0.toList != a0.toList)) = some r := h
  clear h
  obtain rfl := Option.some.inj H
  go_enter Try.func91, Try.ntmps91
  go_wp2
  go_ret
  exact ⟨by first | rfl | (simp; done) | (simp [*]; done), by repeat (first | exact Drawn0.refl _ | apply Drawn0.step)⟩

/-! ### cmp_Compare_string: function 73 -/
section CmpStringExt
open Go.Proofs.Ytdlljjglmcpniaa.MapKit Go.Proofs.Ytdlljjglmcpniaa.ListKit
def cmpS (a b : ByteArray) : Int := if Op.bytesLess a.toList b.toList = true then -1 else if Op.bytesLess b.toList a.toList = true then 1 else 0
def cmp_Compare_string.f (a0 : ByteArray) (a1 : ByteArray) : Option (Int) := some (cmpS a0 a1)
set_option maxHeartbeats 8000000 in
set_option maxRecDepth 100000 in
theorem cmp_Compare_string.calls (a0 : ByteArray) (a1 : ByteArray) (r : Int) (w : World) (h : cmp_Compare_string.f a0 a1 = some r) :
    Calls Try.prog 73 #[.string a0, .string a1] w fun e w' => e = .returned (.int .i64 r) ∧ Drawn0 w w' := by
  obtain rfl := Option.some.inj h
  clear h
  unfold cmpS
  have A3 := Aside0.mk (show cmp_isNaN_string.f a0 = some false by simp [cmp_isNaN_string.f])
  have A4 := Aside0.mk (show cmp_isNaN_string.f a1 = some false by simp [cmp_isNaN_string.f])
  by_cases c8 : Op.bytesLess a0.toList a1.toList = true
  · rw [if_pos c8]
    go_enter Try.func73, Try.ntmps73
    go_wp2_with (first | ((with_reducible refine gate_callee (f := 91) rfl ?_); refine goesL_ (some 8) rfl rfl Try.func91 (by kernel_rfl) rfl #[.string a0] rfl (by (try simp only [List.map_toArray, List.map_cons, List.map_nil]); first | done | rfl) ?_; (with_reducible refine (cmp_isNaN_string.calls a0 false _ A3.out).mono ?_); rintro e w' ⟨rfl, ⟨nd, rfl⟩⟩; refine ⟨_, rfl, ?_⟩) | ((with_reducible refine gate_callee (f := 91) rfl ?_); refine goesL_ (some 10) rfl rfl Try.func91 (by kernel_rfl) rfl #[.string a1] rfl (by (try simp only [List.map_toArray, List.map_cons, List.map_nil]); first | done | rfl) ?_; (with_reducible refine (cmp_isNaN_string.calls a1 false _ A4.out).mono ?_); rintro e w' ⟨rfl, ⟨nd, rfl⟩⟩; refine ⟨_, rfl, ?_⟩))
    go_ret
    exact ⟨by first | rfl | (simp; done) | (simp [*]; done), by repeat (first | exact Drawn0.refl _ | apply Drawn0.step)⟩
  · rw [if_neg c8]
    have c8b0 : (Op.bytesLess a0.toList a1.toList) = false := by simpa using c8
    clear c8
    by_cases c9 : a0.toList = a1.toList
    · have c9b0 : (a0.toList == a1.toList) = true := beq_iff_eq.2 c9
      rw [if_neg (by rw [c9, less_irrefl]; simp)]
      clear c9
      go_enter Try.func73, Try.ntmps73
      go_wp2_with (first | ((with_reducible refine gate_callee (f := 91) rfl ?_); refine goesL_ (some 8) rfl rfl Try.func91 (by kernel_rfl) rfl #[.string a0] rfl (by (try simp only [List.map_toArray, List.map_cons, List.map_nil]); first | done | rfl) ?_; (with_reducible refine (cmp_isNaN_string.calls a0 false _ A3.out).mono ?_); rintro e w' ⟨rfl, ⟨nd, rfl⟩⟩; refine ⟨_, rfl, ?_⟩) | ((with_reducible refine gate_callee (f := 91) rfl ?_); refine goesL_ (some 10) rfl rfl Try.func91 (by kernel_rfl) rfl #[.string a1] rfl (by (try simp only [List.map_toArray, List.map_cons, List.map_nil]); first | done | rfl) ?_; (with_reducible refine (cmp_isNaN_string.calls a1 false _ A4.out).mono ?_); rintro e w' ⟨rfl, ⟨nd, rfl⟩⟩; refine ⟨_, rfl, ?_⟩))
      go_ret
      exact ⟨by first | rfl | (simp; done) | (simp [*]; done), by repeat (first | exact Drawn0.refl _ | apply Drawn0.step)⟩
    · have c9b0 : (a0.toList == a1.toList) = false := beq_eq_false_iff_ne.2 c9
      rw [if_pos (less_total _ _ c8b0 c9)]
      clear c9
      go_enter Try.func73, Try.ntmps73
      go_wp2_with (first | ((with_reducible refine gate_callee (f := 91) rfl ?_); refine goesL_ (some 8) rfl rfl Try.func91 (by kernel_rfl) rfl #[.string a0] rfl (by (try simp only [List.map_toArray, List.map_cons, List.map_nil]); first | done | rfl) ?_; (with_reducible refine (cmp_isNaN_string.calls a0 false _ A3.out).mono ?_); rintro e w' ⟨rfl, ⟨nd, rfl⟩⟩; refine ⟨_, rfl, ?_⟩) | ((with_reducible refine gate_callee (f := 91) rfl ?_); refine goesL_ (some 10) rfl rfl Try.func91 (by kernel_rfl) rfl #[.string a1] rfl (by (try simp only [List.map_toArray, List.map_cons, List.map_nil]); first | done | rfl) ?_; (with_reducible refine (cmp_isNaN_string.calls a1 false _ A4.out).mono ?_); rintro e w' ⟨rfl, ⟨nd, rfl⟩⟩; refine ⟨_, rfl, ?_⟩))
      go_ret
      exact ⟨by first | rfl | (simp; done) | (simp [*]; done), by repeat (first | exact Drawn0.refl _ | apply Drawn0.step)⟩
end CmpStringExt

/-! ### payslip_Merge: function 59 -/
section PSumsExt
open Go.Proofs.Ytdlljjglmcpniaa.MapKit Go.Proofs.Ytdlljjglmcpniaa.ListKit
def ltK : Pr Int Str → Pr Int Str → Bool := ltP ltI ltB
theorem orderK : Order ltK := orderP orderI orderB
def keyL (x : S56) : Pr Int Str := ⟨x.f0, ⟨x.f1⟩⟩
def amtL (x : S56) : Int := x.f2
/-- The sums of the amounts of each kind and code, ascending. -/
def sumsL (l : List S56) : List (Pr Int Str × Int) := addsG ltK keyL amtL [] l
def tot (n : Int) : Bool := decide (-1000000000000 ≤ n ∧ n ≤ 1000000000000)
def formAll (k : Nat) : List S56 → Option Bool
  | [] => some true
  | e :: r => (payslip_form.f k e.f0 e.f1 e.f2).bind fun b => if b = true then formAll k r else some false
theorem formAll.mono : ∀ (l : List S56) k, LeO (formAll k l) (formAll (k + 1) l)
  | [], k => LeO.refl _
  | e :: r, k => by
    unfold formAll
    refine LeO.bind (payslip_form.mono _ _ _ _) fun b => ?_
    by_cases hb : b = true
    · rw [if_pos hb, if_pos hb]; exact formAll.mono r k
    · rw [if_neg hb, if_neg hb]; exact LeO.refl _
def payslip_sums.f (k : Nat) (l : List S56) : Option (List (Pr Int Str × Int) × Int) :=
  if (l.length : Int) > 65536 then some ([], 3) else (formAll k l).bind fun ok => if ok = true then (if (sumsL l).all (fun p => tot p.2) = true then some (sumsL l, 0) else some ([], 4)) else some ([], 1)
theorem payslip_sums.mono : ∀ a0 k, LeO (payslip_sums.f k a0) (payslip_sums.f (k + 1) a0) := by
  intro a0 k
  unfold payslip_sums.f
  split
  · exact LeO.refl _
  · exact LeO.bind (formAll.mono _ _) fun _ => LeO.refl _
theorem tot_eq (n : Int) : payslip_total.f n = some (tot n) := by
  unfold payslip_total.f tot
  by_cases h : n ≥ (-1000000000000)
  · rw [if_pos h]; congr 1; by_cases h2 : n ≤ 1000000000000
    · rw [decide_eq_true h2, decide_eq_true ⟨h, h2⟩]
    · rw [decide_eq_false h2, decide_eq_false (fun c => h2 c.2)]
  · rw [if_neg h]; rw [decide_eq_false (fun c => h c.1)]
theorem name_size' (k : Nat) (s : ByteArray) (h : token_IsName.f k s = some true) : s.size ≤ 24 := by
  unfold token_IsName.f at h
  have hj : token_IsName.j0 k s true ≠ some true := by cases k <;> simp [token_IsName.j0]
  by_cases c1 : s.toList = ([] : List UInt8)
  · rw [if_pos c1] at h; exact absurd h hj
  rw [if_neg c1] at h
  by_cases c2 : (s.size : Int) > 24
  · rw [if_pos c2] at h; exact absurd h hj
  · omega
theorem form_true (k : Nat) (a : Int) (s : ByteArray) (n : Int) (h : payslip_form.f k a s n = some true) : 1 ≤ a ∧ a ≤ 10 ∧ s.size ≤ 24 := by
  unfold payslip_form.f at h
  have hj : payslip_form.j0 k true a s n ≠ some true := by cases k <;> simp [payslip_form.j0]
  by_cases c1 : a < 1
  · rw [if_pos c1] at h; exact absurd h hj
  rw [if_neg c1] at h
  by_cases c2 : a > 10
  · rw [if_pos c2] at h; exact absurd h hj
  rw [if_neg c2, tot_eq, Option.bind_some] at h
  refine ⟨by omega, by omega, ?_⟩
  cases k with
  | zero => simp [payslip_form.j0] at h
  | succ k =>
    simp only [payslip_form.j0] at h
    split at h
    · cases h
    · obtain ⟨c, _, h⟩ := Option.bind_eq_some_iff.1 h
      split at h
      · obtain ⟨b, hb, h⟩ := Option.bind_eq_some_iff.1 h
        obtain rfl := Option.some.inj h
        exact name_size' k s hb
      · have h := Option.some.inj h
        have : s.toList = [] := by simpa using h
        have e : s = ⟨#[]⟩ := toList_inj (by rw [this, ByteArray.toList_eq])
        rw [e]; exact Nat.zero_le _
theorem formAll_true (k : Nat) : ∀ (l : List S56), formAll k l = some true → ∀ e ∈ l, 1 ≤ e.f0 ∧ e.f0 ≤ 10 ∧ e.f1.size ≤ 24
  | [], _, e, he => by cases he
  | x :: r, h, e, he => by
    unfold formAll at h
    obtain ⟨b, hb, h⟩ := Option.bind_eq_some_iff.1 h
    by_cases c : b = true
    · rw [if_pos c] at h
      subst c
      rcases List.mem_cons.1 he with rfl | he
      · exact form_true k _ _ _ hb
      · exact formAll_true k r h e he
    · rw [if_neg c] at h; cases h
theorem sumsL_take (l : List S56) (j : Nat) (hj : j < l.length) : sumsL (l.take (j + 1)) = addG ltK keyL amtL (sumsL (l.take j)) (rd_T56 l j) := by
  unfold sumsL
  rw [List.take_succ_eq_append_getElem hj, addsG_snoc]
  simp [rd_T56, List.getD_eq_getElem?_getD, List.getElem?_eq_getElem hj]
theorem sumsL_asc (l : List S56) : Asc ltK (sumsL l) := addsG_asc orderK l [] List.Pairwise.nil
theorem sumsL_len (l : List S56) : (sumsL l).length ≤ l.length := by have := addsG_len (lt := ltK) (f := keyL) (g := amtL) l []; simpa [sumsL] using this
theorem psums_ok (k : Nat) (l : List S56) (m : List (Pr Int Str × Int)) (h : payslip_sums.f k l = some (m, 0)) : m = sumsL l ∧ l.length ≤ 65536 := by
  unfold payslip_sums.f at h
  by_cases c1 : (l.length : Int) > 65536
  · rw [if_pos c1] at h; simp at h
  rw [if_neg c1] at h
  obtain ⟨ok, _, h⟩ := Option.bind_eq_some_iff.1 h
  by_cases c2 : ok = true
  · rw [if_pos c2] at h
    by_cases c4 : (sumsL l).all (fun p => tot p.2) = true
    · rw [if_pos c4] at h
      simp only [Option.some.injEq, Prod.mk.injEq] at h
      exact ⟨h.1.symm, by omega⟩
    · rw [if_neg c4] at h; simp at h
  · rw [if_neg c2] at h; simp at h
theorem rdL_drop (l : List S56) (x : Int) (h0 : 0 ≤ x) (h : x < (l.length : Int)) : l.drop x.toNat = rd_T56 l x :: l.drop (x + 1).toNat := by
  have hlt : x.toNat < l.length := by omega
  rw [List.drop_eq_getElem_cons hlt, show (x + 1).toNat = x.toNat + 1 by omega]
  congr 1
  simp [rd_T56, List.getD_eq_getElem?_getD, List.getElem?_eq_getElem hlt]
theorem laidOut_ : laidOutB Try.prog = true := by kernel_rfl
theorem lineLaw : Go.WideMaps.KeyLaw Try.prog 80 := deep_law_laid laidOut_ (m := 2) (by omega) (of_decide_eq_true (by kernel_rfl)) (by kernel_rfl) (by rw [Try.underlying80])
noncomputable def lineMK : MK Try.prog 76 80 3 (Pr Int Str) Int :=
  MK.pi Try.prog 76 80 3 .i64 (f0 := { name := "kind", type := 3, offset := 0, embedded := false, tag := "", pkgPath := "payroll/payslip", byteOffset := 0 }) (f1 := { name := "code", type := 9, offset := 1, embedded := false, tag := "", pkgPath := "payroll/payslip", byteOffset := 8 })
    (FK.int Try.prog 3 .i64 Try.underlying3) (FK.str Try.prog 9 Try.underlying9) (Go.Maps.Keyed.of_law lineLaw) Try.underlying80 (by kernel_rfl) (by kernel_rfl) rfl rfl (by kernel_rfl) (by kernel_rfl) (by kernel_rfl) (of_decide_eq_true (by kernel_rfl)) Try.underlying3 Try.underlying76
theorem wrapEq (x : Int) : IntKind.i64.wrap x = wrap64 x := by rw [IntKind.wrap_i64]; unfold wrap64; rfl
theorem pset_grown (w : World) (p : Addr) (u : Value) : w.grownBy (w.setCell p u) (some p.block) := ⟨rfl, rfl, rfl, by simp, fun k hk hk2 => Below.heap_setCell w p u k (fun e => hk2 (by rw [e]))⟩
theorem lineZero (w : World) : (zeroValue 3).run Try.prog w = .ok (.int .i64 0) w := by kernel_rfl
set_option maxHeartbeats 8000000 in
set_option maxRecDepth 100000 in
theorem payslip_sums.calls (k : Nat) (A0 : Option Addr) (c0 : Nat) (l0 : List S56) (r1 : List (Pr Int Str × Int)) (r2 : Int) (w : World) (hr0 : Kd.C k56 w A0 l0.length l0) (hc0 : l0.length ≤ c0) (h : payslip_sums.f k l0 = some (r1, r2)) :
    Calls Try.prog 50 #[.slice A0 l0.length c0] w fun e w' => ∃ v0_ : Value, e = .returned (.tuple #[v0_, .int .i64 r2]) ∧ (r2 = 0 → ∃ mb, v0_ = .map (some mb) ∧ w.heap.size ≤ mb ∧ lineMK.Is w' mb 65536 r1) ∧ Below w.heap.size w w' := by
  have hu44 := Try.underlying56
  have hu80 := Try.underlying80
  have HR0 := Aside0.mk hr0
  have HC0 := Aside0.mk hc0
  clear hr0 hc0
  have HB := Aside0.mk (Below.refl w.heap.size w)
  unfold payslip_sums.f at h
  by_cases c1 : (l0.length : Int) > 65536
  · rw [if_pos c1] at h
    simp only [Option.some.injEq, Prod.mk.injEq] at h
    obtain ⟨rfl, rfl⟩ := h
    have c1b0 : decide ((65536 : Int) < (l0.length : Int)) = true := decide_eq_true c1
    clear c1
    go_enter Try.func50, Try.ntmps50
    go_wp2
    go_ret2
    exact ⟨_, rfl, (fun h => by cases h), HB.out⟩
  · rw [if_neg c1] at h
    have c1b0 : decide ((65536 : Int) < (l0.length : Int)) = false := decide_eq_false c1
    obtain ⟨ok, hok, h⟩ := Option.bind_eq_some_iff.1 h
    have HL := Aside0.mk (show l0.length ≤ 65536 by omega)
    have H' := Aside0.mk h
    have HOK := Aside0.mk hok
    clear c1 h hok
    go_enter Try.func50, Try.ntmps50
    go_wp2_with (first
      | ((with_reducible refine gate_dst (N := 12) rfl ?_); refine lineMK.make_op _ rfl rfl ?_; intro mb w6 hmb his hb; have HM := Aside0.mk his; have n0_ := Aside0.mk (below_step HB.out hb); have GEM := Aside0.mk ((by rw [hmb]; exact below_size HB.out) : w.heap.size ≤ mb); clear HB; have HB := n0_; clear n0_ hb hmb his))
    clear c1b0
    go_loopw [15] (fun i wr => ∃ x : Int, i = .int .i64 x ∧ Aside0 (0 ≤ x ∧ x ≤ l0.length) ∧ Aside0 (formAll k (l0.drop x.toNat) = some ok) ∧ Aside0 (lineMK.Is wr mb x.toNat (sumsL (l0.take x.toNat))) ∧ Aside0 (Below w.heap.size w wr)) (fun i _ => l0.length - (intOf i).toNat)
    case atStart => exact ⟨0, rfl, ⟨by omega, by omega⟩, HOK, ⟨by simpa [sumsL, addsG] using HM.out⟩, HB⟩
    case round =>
      clear HB HM
      obtain ⟨x, rfl, HX, HN, HM, HB⟩ := hrel
      by_cases c7 : x < (l0.length : Int)
      · have c7b0 : decide (x < (l0.length : Int)) = true := decide_eq_true c7
        have p117 : 0 ≤ x := HX.out.1
        have q117 : x < (l0.length : Int) := c7
        have HY := Aside0.mk c7
        have hn := HN.out
        rw [rdL_drop l0 x p117 c7] at hn
        unfold formAll at hn
        obtain ⟨b, hb, hn⟩ := Option.bind_eq_some_iff.1 hn
        have A9 := Aside0.mk hb
        have HN2 := Aside0.mk hn
        have hst := Aside0.mk (sumsL_take l0 x.toNat (by omega))
        rw [Int.toNat_of_nonneg HX.out.1] at hst
        clear hb hn c7 HN
        obtain ⟨ad117, e117, hx117_0, hx117_1, hx117_2⟩ := at_T56 HR0.out x p117 q117
        cases e117
        replace hx117_0 := pw_cell_below HB.out hx117_0
        replace hx117_1 := pw_cell_below HB.out hx117_1
        replace hx117_2 := pw_cell_below HB.out hx117_2
        replace p117 := eq_true p117
        replace q117 := eq_true q117
        obtain ⟨pj, hpj⟩ : ∃ pj, pj = rd_T56 l0 x := ⟨_, rfl⟩
        rw [← hpj] at hst hx117_0 hx117_1 hx117_2 A9
        clear hpj
        cases b with
        | true =>
          have HF := Aside0.mk (form_true k _ _ _ A9.out)
          go_wp2_with (first
            | ((with_reducible refine gate_dst (N := 6) rfl ?_); refine box_event ?hg (N := 6) ?hd (cs := #[.int .i64 0, .string ⟨#[]⟩, .int .i64 0]) (t := 56) ?hr ?_; (case hd => rfl); (case hg => rfl); (case hr => first | (go_simp; done) | (go_simp; rfl)); intro gb2 hg w7 hbox hb; have n0_ := Aside0.mk (below_step HB.out hb); have n1_ := Aside0.mk (HM.out.below hb); have GE2 := Aside0.mk ((by rw [hg]; exact below_size HB.out) : w.heap.size ≤ gb2); have NE2 := Aside0.mk ((by rw [hg]; exact Nat.ne_of_lt HM.out.lt) : mb ≠ gb2); have BK := Aside0.mk hbox; clear HB HM; have HB := n0_; have HM := n1_; clear n0_ n1_ hb hg; have hz0 : w7.cell? ⟨gb2, 0, none⟩ = some (.int .i64 0) := (blk_cell hbox 0).trans rfl; have hz1 : w7.cell? ⟨gb2, 1, none⟩ = some (.string ⟨#[]⟩) := (blk_cell hbox 1).trans rfl; have hz2 : w7.cell? ⟨gb2, 2, none⟩ = some (.int .i64 0) := (blk_cell hbox 2).trans rfl; have hf0 := blk_frozen hbox 0; have hf1 := blk_frozen hbox 1; have hf2 := blk_frozen hbox 2; clear hbox)
            | ((with_reducible refine gate_callee (f := 60) rfl ?_); refine goesL_ (some 20) rfl rfl Try.func60 (by kernel_rfl) rfl #[.agg #[.int .i64 pj.f0, .string pj.f1, .int .i64 pj.f2]] rfl (by (try simp only [List.map_toArray, List.map_cons, List.map_nil]); first | done | rfl) ?_; (with_reducible refine (payslip_form.calls k pj.f0 pj.f1 pj.f2 true _ A9.out).mono ?_); rintro e w4 ⟨rfl, hb⟩; refine ⟨_, rfl, ?_⟩; have n0_ := Aside0.mk (below_step (below_set (below_set (below_set HB.out GE2.out) GE2.out) GE2.out) hb); have n1_ := Aside0.mk (((((HM.out.far NE2.out _).far NE2.out _).far NE2.out _)).below hb); have n2_ : Aside0 (w4.heap[gb2]? = some (.cells #[.int .i64 pj.f0, .string pj.f1, .int .i64 pj.f2] 56 (0, 0))) := Aside0.mk (blk_below (blk_put (blk_put (blk_put BK.out 0 _ rfl) 1 _ rfl) 2 _ rfl) hb); clear HB HM BK hz0 hz1 hz2 hf0 hf1 hf2; have HB := n0_; have HM := n1_; have BK := n2_; clear n0_ n1_ n2_ hb))
          clear hx117_0 hx117_1 hx117_2
          obtain ⟨v0, st, w1, hE, hL0, hL1, hwf, hg1, hS⟩ := lineMK.entry_op lineLaw (w := w4.drew) HM.out.drew (by have := HL.out; have := HX.out; unfold maxLen; omega) 0 lineZero rfl ⟨pj.f0, ⟨pj.f1⟩⟩ ⟨by have := HF.out; show (Lit.int .i64 pj.f0).wf = true; rw [← wrapid (x := pj.f0) (by omega) (by omega)]; exact wrap64_wf _, by have := HF.out; show pj.f1.size ≤ maxLen; unfold maxLen; omega⟩
          obtain ⟨w2, hSt, his, hg2⟩ := hS (wrap64 (((sumsL (l0.take x.toNat)).lookup ⟨pj.f0, ⟨pj.f1⟩⟩).getD 0 + pj.f2)) (wrap64_wf _) (addG ltK keyL amtL (sumsL (l0.take x.toNat)) pj) (fun y => lookup_putL ltK _ _ _ y)
          have hc0 : w4.drew.cell? ⟨gb2, 0, none⟩ = some (.int .i64 pj.f0) := (blk_cell (blk_drew BK.out) 0).trans rfl
          have hc1 : w4.drew.cell? ⟨gb2, 1, none⟩ = some (.string pj.f1) := (blk_cell (blk_drew BK.out) 1).trans rfl
          have hc2 : w4.drew.cell? ⟨gb2, 2, none⟩ = some (.int .i64 pj.f2) := (blk_cell (blk_drew BK.out) 2).trans rfl
          have BK1 := blk_grown (blk_drew BK.out) hg1 (fun e => NE2.out (Option.some.inj e).symm)
          have BK2 := blk_grown (blk_drew BK.out) hg2 (fun e => NE2.out (Option.some.inj e).symm)
          have hS0 : w4.drew.cell? ⟨gb2, 0, none⟩ = some (.int .i64 pj.f0) ∧ w4.drew.cell? ⟨gb2, 1, none⟩ = some (.string pj.f1) ∧ w4.drew.cell? ⟨gb2, 2, none⟩ = some (.int .i64 pj.f2) := ⟨hc0, hc1, hc2⟩
          have hS1 : w1.cell? ⟨gb2, 0, none⟩ = some (.int .i64 pj.f0) ∧ w1.cell? ⟨gb2, 1, none⟩ = some (.string pj.f1) ∧ w1.cell? ⟨gb2, 2, none⟩ = some (.int .i64 pj.f2) := ⟨(blk_cell BK1 0).trans rfl, (blk_cell BK1 1).trans rfl, (blk_cell BK1 2).trans rfl⟩
          have hS2 : w2.cell? ⟨gb2, 0, none⟩ = some (.int .i64 pj.f0) ∧ w2.cell? ⟨gb2, 1, none⟩ = some (.string pj.f1) ∧ w2.cell? ⟨gb2, 2, none⟩ = some (.int .i64 pj.f2) := ⟨(blk_cell BK2 0).trans rfl, (blk_cell BK2 1).trans rfl, (blk_cell BK2 2).trans rfl⟩
          have n0_ := Aside0.mk (pw_below_grown (below_drew1 HB.out) _ (below_size (below_drew1 HB.out)) hg2 (fun k e => by cases e; exact GEM.out))
          clear hc0 hc1 hc2 BK1 BK2 hg1 hg2 BK
          replace hE : (Instr.mapEntry 76 (.map (some mb)) (.agg #[.int .i64 pj.f0, .string pj.f1])).run Try.prog w4.drew = .ok (.tuple #[v0, .int .i64 (st : Int)]) w1 := hE
          replace hL0 : (Instr.lookup 76 (.map (some mb)) (.agg #[.int .i64 pj.f0, .string pj.f1]) false).run Try.prog w4.drew = .ok (.int .i64 (((sumsL (l0.take x.toNat)).lookup ⟨pj.f0, ⟨pj.f1⟩⟩).getD 0)) w4.drew := hL0
          replace hL1 : (Instr.lookup 76 (.map (some mb)) (.agg #[.int .i64 pj.f0, .string pj.f1]) false).run Try.prog w1 = .ok (.int .i64 (((sumsL (l0.take x.toNat)).lookup ⟨pj.f0, ⟨pj.f1⟩⟩).getD 0)) w1 := hL1
          replace hSt : (Instr.entryStore 76 (.map (some mb)) (.int .i64 (st : Int)) (.int .i64 (IntKind.i64.wrap (((sumsL (l0.take x.toNat)).lookup ⟨pj.f0, ⟨pj.f1⟩⟩).getD 0 + pj.f2)))).run Try.prog w1 = .ok () w2 := by rw [wrapEq]; exact hSt
          clear HB HM
          have HB := n0_
          have HM := Aside0.mk his
          clear n0_ his
          go_region_held (fun w' => w'.cell? ⟨gb2, 0, none⟩ = some (.int .i64 pj.f0) ∧ w'.cell? ⟨gb2, 1, none⟩ = some (.string pj.f1) ∧ w'.cell? ⟨gb2, 2, none⟩ = some (.int .i64 pj.f2)) (first | exact hS0 | exact hS1 | exact hS2) (fail)
          all_goals clear hS0 hS1 hS2 hE hL0 hL1 hSt hS hwf
          all_goals go_wp2
          all_goals go_roundw
          case rel | rel =>
            have hx := HX.out
            have hy := HY.out
            have hl := HL.out
            have e1 : (x + 1).toNat = x.toNat + 1 := by omega
            refine ⟨x + 1, by first | rfl | (rw [show wrap64 (x + 1) = x + 1 by unfold wrap64; omega]), ⟨by omega, by omega⟩, ⟨HN2.out⟩, ⟨?_⟩, HB⟩
            rw [e1, hst.out]
            exact HM.out
          case measure | measure =>
            have hx := HX.out
            have hy := HY.out
            have hl := HL.out
            have e : wrap64 (x + 1) = x + 1 := by unfold wrap64; omega
            simp [intOf, e]; omega
        | false =>
          obtain rfl : false = ok := Option.some.inj HN2.out
          have H := H'.out
          simp only [Bool.false_eq_true, if_false, Option.some.injEq, Prod.mk.injEq] at H
          obtain ⟨rfl, rfl⟩ := H
          clear H' HN2
          go_wp2_with (first
            | ((with_reducible refine gate_dst (N := 6) rfl ?_); refine box_event ?hg (N := 6) ?hd (cs := #[.int .i64 0, .string ⟨#[]⟩, .int .i64 0]) (t := 56) ?hr ?_; (case hd => rfl); (case hg => rfl); (case hr => first | (go_simp; done) | (go_simp; rfl)); intro gb2 hg w7 hbox hb; have n0_ := Aside0.mk (below_step HB.out hb); have n1_ := Aside0.mk (HM.out.below hb); have GE2 := Aside0.mk ((by rw [hg]; exact below_size HB.out) : w.heap.size ≤ gb2); have NE2 := Aside0.mk ((by rw [hg]; exact Nat.ne_of_lt HM.out.lt) : mb ≠ gb2); have BK := Aside0.mk hbox; clear HB HM; have HB := n0_; have HM := n1_; clear n0_ n1_ hb hg; have hz0 : w7.cell? ⟨gb2, 0, none⟩ = some (.int .i64 0) := (blk_cell hbox 0).trans rfl; have hz1 : w7.cell? ⟨gb2, 1, none⟩ = some (.string ⟨#[]⟩) := (blk_cell hbox 1).trans rfl; have hz2 : w7.cell? ⟨gb2, 2, none⟩ = some (.int .i64 0) := (blk_cell hbox 2).trans rfl; have hf0 := blk_frozen hbox 0; have hf1 := blk_frozen hbox 1; have hf2 := blk_frozen hbox 2; clear hbox)
            | ((with_reducible refine gate_callee (f := 60) rfl ?_); refine goesL_ (some 20) rfl rfl Try.func60 (by kernel_rfl) rfl #[.agg #[.int .i64 pj.f0, .string pj.f1, .int .i64 pj.f2]] rfl (by (try simp only [List.map_toArray, List.map_cons, List.map_nil]); first | done | rfl) ?_; (with_reducible refine (payslip_form.calls k pj.f0 pj.f1 pj.f2 false _ A9.out).mono ?_); rintro e w4 ⟨rfl, hb⟩; refine ⟨_, rfl, ?_⟩; have n0_ := Aside0.mk (below_step (below_set (below_set (below_set HB.out GE2.out) GE2.out) GE2.out) hb); clear HB; have HB := n0_; clear n0_ hb))
          go_ret2
          exact ⟨_, rfl, (fun h => by cases h), HB.out⟩
      · have c7b0 : decide (x < (l0.length : Int)) = false := decide_eq_false c7
        have hxl : x.toNat = l0.length := by have := HX.out; omega
        obtain rfl : true = ok := by
          have := HN.out
          rw [hxl, List.drop_length] at this
          exact Option.some.inj this
        rw [hxl, List.take_length] at HM
        have H3 := Aside0.mk (show (if (sumsL l0).all (fun p => tot p.2) = true then some (sumsL l0, 0) else some ([], 4)) = some (r1, r2) from H'.out)
        clear hxl c7 HX HN HOK H'
        go_wp2_with (first
          | (at_range; refine lineMK.range_op _ rfl _ rfl mb l0.length (sumsL l0) rfl HM.out ?_; intro rb w9 hrb hr hgr; have HR := Aside0.mk hr; have GER := Aside0.mk ((by rw [hrb]; exact below_size HB.out) : w.heap.size ≤ rb); have n0_ := Aside0.mk (pw_below_grown HB.out none (below_size HB.out) hgr (by simp)); clear HB HM; have HB := n0_; clear n0_ hr hgr hrb))
        go_frame
        go_loopw [] (fun wr => ∃ done : List (Pr Int Str × Int), Aside0 (lineMK.Ranges wr mb rb l0.length (sumsL l0) done) ∧ Aside0 (∀ p ∈ done, tot p.2 = true) ∧ Aside0 (Below w.heap.size w wr)) (fun wr => wr.rangeLeft mb rb)
        case atStart => exact ⟨[], HR, ⟨by simp⟩, HB⟩
        case round =>
          clear HR HB
          obtain ⟨done, HR, HD, HB⟩ := hrel
          go_wp2_with (first
            | (at_next; refine next_pis lineMK (fun _ => rfl) (fun _ => rfl) _ rfl _ rfl mb rb l0.length (sumsL l0) done rfl HR.out ?_ ?_))
          · intro hall
            have hnd : (done.map (·.1)).Nodup := by
              obtain ⟨_, _, _, _, _, _, _, hn⟩ := HR.out
              exact hn
            have hperm := perm_of_lookup hnd ((sumsL_asc l0).nodup orderK) hall
            have hany : (sumsL l0).all (fun p => tot p.2) = true := by
              rw [List.all_eq_true]
              intro p hp
              exact HD.out p (hperm.mem_iff.2 hp)
            have H := H3.out
            rw [hany, if_pos rfl] at H
            simp only [Option.some.injEq, Prod.mk.injEq] at H
            obtain ⟨rfl, rfl⟩ := H
            clear hall hnd hperm hany HD H3
            go_wp2
            go_ret2
            exact ⟨_, rfl, ⟨mb, rfl, GEM.out, HR.out.is.mono HL.out⟩, HB.out⟩
          · intro x c w1 hwx hwc hmx hdx hr hlt hg hsz hen
            have HR2 := Aside0.mk hr
            have HLT := Aside0.mk hlt
            have HMX := Aside0.mk (mem_of_lookup hmx)
            have n0_ := Aside0.mk (pw_below_grown HB.out _ (below_size HB.out) hg (fun k e => by cases e; exact GER.out))
            clear HB; have HB := n0_
            clear n0_ hmx hdx hr hlt hg hsz hwx hwc HR
            obtain ⟨b, hb⟩ : ∃ b, b = tot c := ⟨_, rfl⟩
            have A9 := Aside0.mk (tot_eq c)
            rw [← hb] at A9
            have HBB := Aside0.mk hb
            clear hb
            cases b with
            | true =>
              go_wp2_with (first
                | ((with_reducible refine gate_callee (f := 51) rfl ?_); refine goesL_ (some 42) rfl rfl Try.func51 (by kernel_rfl) rfl #[.int .i64 c] rfl (by (try simp only [List.map_toArray, List.map_cons, List.map_nil]); first | done | rfl) ?_; (with_reducible refine (payslip_total.calls c true _ A9.out).mono ?_); rintro e w4 ⟨rfl, ⟨nd, rfl⟩⟩; refine ⟨_, rfl, ?_⟩))
              go_roundw
              case rel => exact ⟨done ++ [(x, c)], ⟨HR2.out.drewN _⟩, ⟨fun p hp => (List.mem_append.1 hp).elim (fun hp => HD.out p hp) (fun hp => by rw [List.mem_singleton] at hp; subst hp; exact HBB.out.symm)⟩, ⟨by repeat (first | exact HB.out | apply pw_below_drewN)⟩⟩
              case measure => exact HLT.out
            | false =>
              have hany : (sumsL l0).all (fun p => tot p.2) = false := by
                rw [Bool.eq_false_iff]
                intro hc
                have := List.all_eq_true.1 hc _ HMX.out
                rw [← HBB.out] at this
                cases this
              have H := H3.out
              rw [hany, if_neg (by simp)] at H
              simp only [Option.some.injEq, Prod.mk.injEq] at H
              obtain ⟨rfl, rfl⟩ := H
              clear hany H3
              go_wp2_with (first
                | ((with_reducible refine gate_callee (f := 51) rfl ?_); refine goesL_ (some 42) rfl rfl Try.func51 (by kernel_rfl) rfl #[.int .i64 c] rfl (by (try simp only [List.map_toArray, List.map_cons, List.map_nil]); first | done | rfl) ?_; (with_reducible refine (payslip_total.calls c false _ A9.out).mono ?_); rintro e w4 ⟨rfl, ⟨nd, rfl⟩⟩; refine ⟨_, rfl, ?_⟩))
              go_ret2
              exact ⟨_, rfl, (fun h => by cases h), by repeat (first | exact HB.out | apply pw_below_drewN)⟩
end PSumsExt
section PLinesExt
open Go.Proofs.Ytdlljjglmcpniaa.MapKit Go.Proofs.Ytdlljjglmcpniaa.ListKit Go.Proofs.Ytdlljjglmcpniaa.SortKit
def toL (p : Pr Int Str × Int) : S56 := ⟨p.1.a, p.1.b.s, p.2⟩
/-- The sums that are not 0. -/
def linesL (m : List (Pr Int Str × Int)) : List S56 := keepG toL m
def lineEnc (x : S56) : List Value := [.int .i64 x.f0, .string x.f1, .int .i64 x.f2]
theorem lineFlat : Flat k56 lineEnc := ⟨fun _ => rfl, fun x v h => by simp [lineEnc] at h; rcases h with rfl | rfl | rfl <;> rfl, fun w base ok x => k56_mkM w base ok x, fun w base ok x cs h => k56_openM h⟩
def cmpI (a b : Int) : Int := if a < b then -1 else if a > b then 1 else 0
theorem cmpI_eq (a b : Int) : cmp_Compare_int.f a b = some (cmpI a b) := by
  unfold cmp_Compare_int.f cmpI cmp_isNaN_int.f
  by_cases h : a < b
  · simp [h]
  · by_cases h2 : a > b <;> simp [h, h2]
theorem cmpS_eq (a b : ByteArray) : cmp_Compare_string.f a b = some (cmpS a b) := rfl
def lineCmp (x y : S56) : Int := if cmpI x.f0 y.f0 = 0 then cmpS x.f1 y.f1 else cmpI x.f0 y.f0
theorem line_cmp (x y : S56) (W : World) : Calls Try.prog 62 #[.agg #[.int .i64 x.f0, .string x.f1, .int .i64 x.f2], .agg #[.int .i64 y.f0, .string y.f1, .int .i64 y.f2]] W fun e w' => e = .returned (.int .i64 (lineCmp x y)) ∧ ∃ q os', w' = Sort.grow (W.drewN q) os' := by
  have hu44 := Try.underlying56
  unfold lineCmp
  obtain ⟨c1, hc1⟩ : ∃ c, c = cmpI x.f0 y.f0 := ⟨_, rfl⟩
  obtain ⟨c2, hc2⟩ : ∃ c, c = cmpS x.f1 y.f1 := ⟨_, rfl⟩
  have A1 := Aside0.mk (cmpI_eq x.f0 y.f0)
  have A2 := Aside0.mk (cmpS_eq x.f1 y.f1)
  rw [← hc1] at A1 ⊢
  rw [← hc2] at A2 ⊢
  clear hc1 hc2
  by_cases h : c1 = 0
  · rw [if_pos h]
    subst h
    go_enter Try.func62, Try.ntmps62
    go_wp2_with (first
      | ((with_reducible refine gate_callee (f := 72) rfl ?_); refine goesL_ (some 10) rfl rfl Try.func72 (by kernel_rfl) rfl #[.int .i64 x.f0, .int .i64 y.f0] rfl (by (try simp only [List.map_toArray, List.map_cons, List.map_nil]); first | done | rfl) ?_; (with_reducible refine (cmp_Compare_int.calls x.f0 y.f0 0 _ A1.out).mono ?_); rintro e w4 ⟨rfl, ⟨nd, rfl⟩⟩; refine ⟨_, rfl, ?_⟩)
      | ((with_reducible refine gate_callee (f := 73) rfl ?_); refine goesL_ (some 18) rfl rfl Try.func73 (by kernel_rfl) rfl #[.string x.f1, .string y.f1] rfl (by (try simp only [List.map_toArray, List.map_cons, List.map_nil]); first | done | rfl) ?_; (with_reducible refine (cmp_Compare_string.calls x.f1 y.f1 c2 _ A2.out).mono ?_); rintro e w4 ⟨rfl, ⟨nd2, rfl⟩⟩; refine ⟨_, rfl, ?_⟩))
    go_ret
    exact ⟨rfl, _, _, by rw [Sort.alloc_eq_grow, Sort.alloc_eq_grow, Sort.grow_grow]; rfl⟩
  · rw [if_neg h]
    have h' : (c1 != 0) = true := bne_iff_ne.mpr h
    clear h
    go_enter Try.func62, Try.ntmps62
    go_wp2_with (first
      | ((with_reducible refine gate_callee (f := 72) rfl ?_); refine goesL_ (some 10) rfl rfl Try.func72 (by kernel_rfl) rfl #[.int .i64 x.f0, .int .i64 y.f0] rfl (by (try simp only [List.map_toArray, List.map_cons, List.map_nil]); first | done | rfl) ?_; (with_reducible refine (cmp_Compare_int.calls x.f0 y.f0 c1 _ A1.out).mono ?_); rintro e w4 ⟨rfl, ⟨nd, rfl⟩⟩; refine ⟨_, rfl, ?_⟩))
    go_ret
    exact ⟨rfl, _, _, by rw [Sort.alloc_eq_grow, Sort.alloc_eq_grow, Sort.grow_grow]; rfl⟩
theorem cmpI_neg (a b : Int) : cmpI a b < 0 ↔ a < b := by
  unfold cmpI
  by_cases h : a < b
  · rw [if_pos h]; omega
  · rw [if_neg h]
    by_cases h2 : a > b
    · rw [if_pos h2]; omega
    · rw [if_neg h2]; omega
theorem cmpI_zero (a b : Int) : cmpI a b = 0 ↔ a = b := by
  unfold cmpI
  by_cases h : a < b
  · rw [if_pos h]; omega
  · rw [if_neg h]
    by_cases h2 : a > b
    · rw [if_pos h2]; omega
    · rw [if_neg h2]; omega
theorem cmpS_neg (a b : ByteArray) : cmpS a b < 0 ↔ ltB ⟨a⟩ ⟨b⟩ = true := by
  unfold cmpS ltB
  by_cases h : Op.bytesLess a.toList b.toList = true
  · rw [if_pos h]; simp [h]
  · rw [if_neg h]
    by_cases h2 : Op.bytesLess b.toList a.toList = true
    · rw [if_pos h2]; simp [h]
    · rw [if_neg h2]; simp [h]
theorem lineCmp_neg (x y : S56) : lineCmp x y < 0 ↔ ltK (keyL x) (keyL y) = true := by
  unfold lineCmp ltK ltP keyL
  simp only [Bool.or_eq_true, Bool.and_eq_true, decide_eq_true_eq, ltI]
  by_cases h : cmpI x.f0 y.f0 = 0
  · rw [if_pos h, cmpS_neg]
    rw [cmpI_zero] at h
    constructor
    · intro h2; exact .inr ⟨h, h2⟩
    · rintro (h2 | ⟨_, h2⟩)
      · omega
      · exact h2
  · rw [if_neg h, cmpI_neg]
    rw [cmpI_zero] at h
    constructor
    · intro h2; exact .inl h2
    · rintro (h2 | ⟨h2, _⟩)
      · exact h2
      · exact absurd h2 h
theorem ltK_ntr {x y z : Pr Int Str} (h : ¬ ltK x y = true) (h2 : ¬ ltK y z = true) : ¬ ltK x z = true := by
  intro h3
  by_cases e : y = z
  · subst e; exact h h3
  · have := orderK.total y z (by simpa using h2) e
    exact h (orderK.trans _ _ _ h3 this)
set_option maxHeartbeats 8000000 in
set_option maxRecDepth 100000 in
theorem payslip_lines.calls (m : List (Pr Int Str × Int)) (n mb : Nat) (w : World) (his : lineMK.Is w mb n m) (hasc : Asc ltK m) (hlen : m.length ≤ 131072) :
    Calls Try.prog 52 #[.map (some mb)] w fun e w' => ∃ v0_ : Value, e = .returned v0_ ∧ Kd.R k56 56 w' w.heap.size (fun _ => True) v0_ (linesL m) ∧ Below w.heap.size w w' := by
  have hu44 := Try.underlying56
  have hu80 := Try.underlying80
  have HM := Aside0.mk his
  have HA := Aside0.mk hasc
  have HL := Aside0.mk hlen
  clear his hasc hlen
  have HB := Aside0.mk (Below.refl w.heap.size w)
  go_enter Try.func52, Try.ntmps52
  go_wp2_with (first
    | (at_range; refine lineMK.range_op _ rfl _ rfl mb n m rfl HM.out ?_; intro rb w9 hrb hr hgr; have HR := Aside0.mk hr; have GER := Aside0.mk ((by rw [hrb]; exact below_size HB.out) : w.heap.size ≤ rb); have n0_ := Aside0.mk (pw_below_grown HB.out none (below_size HB.out) hgr (by simp)); clear HB HM; have HB := n0_; clear n0_ hr hgr hrb))
  go_frame
  go_loopw [3] (fun v wr => ∃ done : List (Pr Int Str × Int), Aside0 (lineMK.Ranges wr mb rb n m done) ∧ Aside0 (Kd.R k56 56 wr w.heap.size (fun _ => True) v (linesL done)) ∧ Aside0 (Below w.heap.size w wr)) (fun _ wr => wr.rangeLeft mb rb)
  case atStart => exact ⟨[], HR, ⟨Kd.R_nil _ _ _ _ _⟩, HB⟩
  case round =>
    clear HR HB
    obtain ⟨done, HR, HO, HB⟩ := hrel
    go_wp2_with (first
      | (at_next; refine next_pis lineMK (fun _ => rfl) (fun _ => rfl) _ rfl _ rfl mb rb n m done rfl HR.out ?_ ?_))
    · intro hall
      have hnd : (done.map (·.1)).Nodup := by
        obtain ⟨_, _, _, _, _, _, _, hn⟩ := HR.out
        exact hn
      have hperm := perm_of_lookup hnd (HA.out.nodup orderK) hall
      have hpe : (linesL done).Perm (linesL m) := (hperm.filter _).map _
      have hlen : (linesL done).length < 4611686018427387904 := by
        have h1 : (linesL done).length ≤ done.length := keepG_len _ _
        have h2 := hperm.length_eq
        have h3 := HL.out
        omega
      have HP := Aside0.mk hpe
      have HLEN := Aside0.mk hlen
      clear hall hnd hperm hpe hlen HR
      have hag : ∀ w, (isAgg (Try.sortLine_ren.t 24)).run Try.prog w = .ok true w := fun w => by kernel_rfl
      have hsz : ∀ w, (Go.sizeOf (Try.sortLine_ren.t 24)).run Try.prog w = .ok k56.sz w := fun w => by kernel_rfl
      have HS := Aside0.mk (fun W (hR : Kd.R k56 56 W w.heap.size (fun _ => True) u3 (linesL done)) => sorts Try.sortLine lineFlat hag hsz (fun _ => True) lineCmp 62 (enters_of Try.func62 (by kernel_rfl) rfl) (fun x y _ _ W => line_cmp x y W) (fun x _ => by rw [lineCmp_neg]; simpa using orderK.irrefl _) (fun x y z _ _ _ h h2 => by rw [lineCmp_neg] at *; exact orderK.trans _ _ _ h h2) (fun x y z _ _ _ h h2 => by rw [lineCmp_neg] at *; exact ltK_ntr h h2) (fun _ _ => trivial) W HLEN.out hR)
      clear hag hsz
      go_wp2_with (first
        | ((with_reducible refine gate_callee (f := 61) rfl ?_); refine goesL_ (some 25) rfl rfl Try.func61 (by kernel_rfl) rfl #[u3, .func (.func 62) #[] #[]] rfl (by (try simp only [List.map_toArray, List.map_cons, List.map_nil]); first | done | rfl) ?_; refine (HS.out _ HO.out).mono ?_; rintro e w10 ⟨rfl, ys, hyp, hys, hR, hg⟩; refine ⟨_, rfl, ?_⟩; have HR2 := Aside0.mk hR; have HYP := Aside0.mk hyp; have HYS := Aside0.mk hys; have n0_ := Aside0.mk (pw_below_grown HB.out _ (below_size HB.out) hg (Kd.R_base HO.out)); clear HB HO; have HB := n0_; clear n0_ hR hyp hys hg))
      go_ret
      have hys : ys = linesL m := by
        have h1 : (ys.map fun p => (keyL p, amtL p)) = (m.filter fun p => decide (p.2 ≠ 0)) := by
          refine perm_asc_eq orderK ?_ ?_ ?_
          · have := (HYP.out.trans HP.out).map (fun p : S56 => (keyL p, amtL p))
            refine this.trans ?_
            unfold linesL keepG
            rw [List.map_map]
            have : ((fun p : S56 => (keyL p, amtL p)) ∘ toL) = id := rfl
            rw [this, List.map_id]
          · have hw : (ys.map fun p => (keyL p, amtL p)).Pairwise (fun p q => ¬ ltK q.1 p.1 = true) := by
              rw [List.pairwise_map]
              exact HYS.out.imp fun {p q} h => by rw [← lineCmp_neg]; exact Int.not_lt.2 (by omega)
            exact hw
          · exact List.Pairwise.sublist List.filter_sublist HA.out
        unfold linesL keepG
        rw [← h1, List.map_map]
        have : (toL ∘ fun p : S56 => (keyL p, amtL p)) = id := rfl
        rw [this, List.map_id]
      rw [← hys]
      exact ⟨_, rfl, HR2.out, HB.out⟩
    · intro x c w1 hwx hwc hmx hdx hr hlt hg hsz hen
      have HR2 := Aside0.mk hr
      have HLT := Aside0.mk hlt
      have hne := HR.out.row_ne (Kd.R_own HO.out).choose_spec
      have HO2 := Aside0.mk (lineFlat.kept HO.out hg (fun k hk e => hne.2 (hk.trans e).symm))
      have n0_ := Aside0.mk (pw_below_grown HB.out _ (below_size HB.out) hg (fun k e => by cases e; exact GER.out))
      clear HB; have HB := n0_
      have HLN := Aside0.mk (show (linesL done).length ≤ 131072 by
        have hnd : (done.map (·.1)).Nodup := by
          obtain ⟨_, _, _, _, _, _, _, hn⟩ := HR.out
          exact hn
        have hsub : (done.map (·.1)).length ≤ (m.map (·.1)).length := by
          refine List.Nodup.length_le_of_subset hnd fun y hy => ?_
          obtain ⟨_, _, _, _, _, _, hd, _⟩ := HR.out
          obtain ⟨q, hq, rfl⟩ := List.mem_map.1 hy
          exact List.mem_map.2 ⟨q, mem_of_lookup (hd q.1 q.2 hq).1, rfl⟩
        have h1 : (linesL done).length ≤ done.length := keepG_len _ _
        have h3 := HL.out
        simp only [List.length_map] at hsub
        omega)
      clear n0_ hmx hdx hr hlt hg hsz hwx hwc hne HR HO
      by_cases hc : c = 0
      · have hc0 : (c != 0) = false := bne_eq_false_iff_eq.mpr hc
        have HC := Aside0.mk hc
        clear hc
        go_wp2_with (first
          | ((with_reducible refine gate_dst (N := 4) rfl ?_); refine box_event ?hg (N := 4) ?hd (cs := #[.int .i64 0, .string ⟨#[]⟩]) (t := 80) ?hr ?_; (case hd => rfl); (case hg => rfl); (case hr => first | (go_simp; done) | (go_simp; rfl)); intro gb2 hg w7 hbox hb; have GE2 := Aside0.mk ((by rw [hg]; exact below_size HB.out) : w.heap.size ≤ gb2); have NE3 := Aside0.mk ((by rw [hg]; exact Nat.ne_of_lt HR2.out.lt) : rb ≠ gb2); have NE4 := Aside0.mk ((by rw [hg]; exact Nat.ne_of_lt HR2.out.is.lt) : mb ≠ gb2); have k0 := HR2.out.kept (grown_of_below hb none) (by simp) (by simp); have r0 := lineFlat.kept HO2.out (grown_of_below hb none) (fun k hk e => by cases e); have hno := Kd.R_ne r0 hbox (by decide); have k1 := k0.1.kept (pset_grown w7 ⟨gb2, 0, none⟩ (.int .i64 x.a)) (fun e => NE4.out (Option.some.inj e)) (fun e => NE3.out (Option.some.inj e)); have k2 := k1.1.kept (pset_grown (w7.setCell ⟨gb2, 0, none⟩ (.int .i64 x.a)) ⟨gb2, 1, none⟩ (.string x.b.s)) (fun e => NE4.out (Option.some.inj e)) (fun e => NE3.out (Option.some.inj e)); have HRW := Aside0.mk k2.1; have HLW := Aside0.mk (Nat.lt_of_le_of_lt (Nat.le_of_eq (k2.2.trans (k1.2.trans k0.2))) HLT.out); have HOW := Aside0.mk (lineFlat.kept (lineFlat.kept r0 (pset_grown w7 ⟨gb2, 0, none⟩ (.int .i64 x.a)) (fun k hk e => hno (e.symm.trans hk.symm))) (pset_grown (w7.setCell ⟨gb2, 0, none⟩ (.int .i64 x.a)) ⟨gb2, 1, none⟩ (.string x.b.s)) (fun k hk e => hno (e.symm.trans hk.symm))); have HBW := Aside0.mk (below_set (j := 1) (v := .string x.b.s) (below_set (j := 0) (v := .int .i64 x.a) (below_step HB.out hb) GE2.out) GE2.out); clear HB HR2 HO2 HLT k0 k1 k2 r0 hno hb hg NE3 NE4 GE2; have hz0 : w7.cell? ⟨gb2, 0, none⟩ = some (.int .i64 0) := (blk_cell hbox 0).trans rfl; have hz1 : w7.cell? ⟨gb2, 1, none⟩ = some (.string ⟨#[]⟩) := (blk_cell hbox 1).trans rfl; have hf0 := blk_frozen hbox 0; have hf1 := blk_frozen hbox 1; clear hbox))
        go_roundw
        case rel => exact ⟨done ++ [(x, c)], HRW, ⟨by unfold linesL; rw [keepG_snoc, if_pos HC.out, List.append_nil]; exact HOW.out⟩, HBW⟩
        case measure => exact HLW.out
      · have hc0 : (c != 0) = true := bne_iff_ne.mpr hc
        have HC := Aside0.mk hc
        clear hc
        go_wp2_with (first
          | ((with_reducible refine gate_dst (N := 4) rfl ?_); refine box_event ?hg (N := 4) ?hd (cs := #[.int .i64 0, .string ⟨#[]⟩]) (t := 80) ?hr ?_; (case hd => rfl); (case hg => rfl); (case hr => first | (go_simp; done) | (go_simp; rfl)); intro gb2 hg w7 hbox hb; have GE2 := Aside0.mk ((by rw [hg]; exact below_size HB.out) : w.heap.size ≤ gb2); have NE3 := Aside0.mk ((by rw [hg]; exact Nat.ne_of_lt HR2.out.lt) : rb ≠ gb2); have NE4 := Aside0.mk ((by rw [hg]; exact Nat.ne_of_lt HR2.out.is.lt) : mb ≠ gb2); have k0 := HR2.out.kept (grown_of_below hb none) (by simp) (by simp); have r0 := lineFlat.kept HO2.out (grown_of_below hb none) (fun k hk e => by cases e); have hno := Kd.R_ne r0 hbox (by decide); have k1 := k0.1.kept (pset_grown w7 ⟨gb2, 0, none⟩ (.int .i64 x.a)) (fun e => NE4.out (Option.some.inj e)) (fun e => NE3.out (Option.some.inj e)); have k2 := k1.1.kept (pset_grown (w7.setCell ⟨gb2, 0, none⟩ (.int .i64 x.a)) ⟨gb2, 1, none⟩ (.string x.b.s)) (fun e => NE4.out (Option.some.inj e)) (fun e => NE3.out (Option.some.inj e)); have HRW := Aside0.mk k2.1; have HLW := Aside0.mk (Nat.lt_of_le_of_lt (Nat.le_of_eq (k2.2.trans (k1.2.trans k0.2))) HLT.out); have HOW := Aside0.mk (lineFlat.kept (lineFlat.kept r0 (pset_grown w7 ⟨gb2, 0, none⟩ (.int .i64 x.a)) (fun k hk e => hno (e.symm.trans hk.symm))) (pset_grown (w7.setCell ⟨gb2, 0, none⟩ (.int .i64 x.a)) ⟨gb2, 1, none⟩ (.string x.b.s)) (fun k hk e => hno (e.symm.trans hk.symm))); have HBW := Aside0.mk (below_set (j := 1) (v := .string x.b.s) (below_set (j := 0) (v := .int .i64 x.a) (below_step HB.out hb) GE2.out) GE2.out); clear HB HR2 HO2 HLT k0 k1 k2 r0 hno hb hg NE3 NE4 GE2; have hz0 : w7.cell? ⟨gb2, 0, none⟩ = some (.int .i64 0) := (blk_cell hbox 0).trans rfl; have hz1 : w7.cell? ⟨gb2, 1, none⟩ = some (.string ⟨#[]⟩) := (blk_cell hbox 1).trans rfl; have hf0 := blk_frozen hbox 0; have hf1 := blk_frozen hbox 1; clear hbox)
          | ((with_reducible refine gate_builtin (b := .append) (xs := #[.tmp 15, .tmp 22]) rfl ?_); at_builtin; refine Kd.R_append k56 (w0 := w) w.heap.size rfl (.tmp 15) (.tmp 22) 23 56 (.agg #[(.int .i64 0), (.string ⟨#[]⟩), (.int .i64 0)]) 32 rfl Try.underlying23 info56 rfl (by decide) (by omega) u3 (linesL done) (⟨x.a, x.b.s, c⟩ : S56) [.int .i64 x.a, .string x.b.s, .int .i64 c] (fun _ => True) (fun _ => False) rfl ?hx ?aP (fun _ hk => hk.elim) ?aF HOW.out HBW.out (below_size HBW.out) ?aL ?_; (case hx => show Value.slice (some ⟨w7.heap.size, 0, none⟩) 1 1 = _; simp [World.setCell]); (case aP => exact k56_mkM _ _ _ (⟨x.a, x.b.s, c⟩ : S56)); (case aF => exact (fun _ _ => trivial)); (case aL => have := HLN.out; omega); intro v1 w2 hO hB hg _; have HO3 := Aside0.mk hO; have HNE := HRW.out.row_ne (Kd.R_own HOW.out).choose_spec; have k4 := HRW.out.kept hg HNE.1 HNE.2; have HR3 := Aside0.mk k4.1; have HL3 := Aside0.mk (Nat.lt_of_le_of_lt (Nat.le_of_eq k4.2) HLW.out); have HB := Aside0.mk hB; clear hO hB hg HNE k4))
        go_roundw
        case rel => exact ⟨done ++ [(x, c)], HR3, ⟨by unfold linesL; rw [keepG_snoc, if_neg HC.out]; exact HO3.out⟩, HB⟩
        case measure => exact HL3.out
end PLinesExt
section PMergeExt
open Go.Proofs.Ytdlljjglmcpniaa.MapKit Go.Proofs.Ytdlljjglmcpniaa.ListKit
def payslip_Merge.f (k : Nat) (l0 : List S56) : Option (List S56 × Int) := (payslip_sums.f k l0).bind fun b => if b.2 = 0 then some (linesL b.1, 0) else some ([], b.2)
theorem payslip_Merge.mono : ∀ a0 k, LeO (payslip_Merge.f k a0) (payslip_Merge.f (k + 1) a0) := by
  intro a0 k
  unfold payslip_Merge.f
  exact LeO.bind (payslip_sums.mono _ _) fun _ => LeO.refl _
set_option maxHeartbeats 8000000 in
set_option maxRecDepth 100000 in
theorem payslip_Merge.calls (k : Nat) (A0 : Option Addr) (c0 : Nat) (l0 : List S56) (r1 : List S56) (r2 : Int) (w : World) (hr0 : Kd.C k56 w A0 l0.length l0) (hc0 : l0.length ≤ c0) (h : payslip_Merge.f k l0 = some (r1, r2)) :
    Calls Try.prog 59 #[.slice A0 l0.length c0] w fun e w' => ∃ v0_ : Value, e = .returned (.tuple #[v0_, .int .i64 r2]) ∧ Kd.R k56 56 w' w.heap.size (fun _ => True) v0_ r1 ∧ Below w.heap.size w w' := by
  have HR0 := Aside0.mk hr0
  have HC0 := Aside0.mk hc0
  clear hr0 hc0
  have HB := Aside0.mk (Below.refl w.heap.size w)
  unfold payslip_Merge.f at h
  obtain ⟨⟨m, t⟩, A20, H⟩ := Option.bind_eq_some_iff.1 h
  replace H : (if t = 0 then some (linesL m, 0) else some ([], t)) = some (r1, r2) := H
  have A2 := Aside0.mk A20
  clear h A20
  by_cases c3 : t = 0
  · rw [if_pos c3] at H
    subst c3
    simp only [Option.some.injEq, Prod.mk.injEq] at H
    obtain ⟨rfl, rfl⟩ := H
    have V := Aside0.mk (psums_ok k l0 m A2.out)
    have VA := Aside0.mk (show Asc ltK m by rw [V.out.1]; exact sumsL_asc l0)
    have VL := Aside0.mk (show m.length ≤ 65536 by rw [V.out.1]; have := sumsL_len l0; have := V.out.2; omega)
    go_enter Try.func59, Try.ntmps59
    go_wp2_with (first
      | ((with_reducible refine gate_callee (f := 50) rfl ?_); refine goesL_ (some 8) rfl rfl Try.func50 (by kernel_rfl) rfl #[.slice A0 l0.length c0] rfl (by (try simp only [List.map_toArray, List.map_cons, List.map_nil]); first | done | rfl) ?_; (with_reducible refine (payslip_sums.calls k _ _ l0 m 0 _ ?side1 ?side2 A2.out).mono ?_); (case side1 => exact HR0.out); (case side2 => exact HC0.out); rintro e w4 ⟨v, rfl, hm, hb⟩; obtain ⟨mb, rfl, hmb, hM⟩ := hm rfl; refine ⟨_, rfl, ?_⟩; have HM := Aside0.mk hM; have GEM := Aside0.mk hmb; have n0_ := Aside0.mk (below_step HB.out hb); clear HB; have HB := n0_; clear n0_ hb hM hmb))
    refine (payslip_lines.calls m 65536 mb _ HM.out VA.out (by have := VL.out; omega)).mono ?_
    rintro e w5 ⟨v, rfl, hR, hb⟩
    have HO := Aside0.mk (Kd.R_lower hR (below_size HB.out))
    have n0_ := Aside0.mk (below_step HB.out hb)
    clear HB; have HB := n0_; clear n0_ hb hR
    go_wp2
    go_ret2
    exact ⟨_, rfl, HO.out, HB.out⟩
  · rw [if_neg c3] at H
    have c3b0 : (t == 0) = false := beq_eq_false_iff_ne.mpr c3
    have c3b1 : (t != 0) = true := bne_iff_ne.mpr c3
    simp only [Option.some.injEq, Prod.mk.injEq] at H
    obtain ⟨rfl, rfl⟩ := H
    clear c3
    go_enter Try.func59, Try.ntmps59
    go_wp2_with (first
      | ((with_reducible refine gate_callee (f := 50) rfl ?_); refine goesL_ (some 8) rfl rfl Try.func50 (by kernel_rfl) rfl #[.slice A0 l0.length c0] rfl (by (try simp only [List.map_toArray, List.map_cons, List.map_nil]); first | done | rfl) ?_; (with_reducible refine (payslip_sums.calls k _ _ l0 m t _ ?side1 ?side2 A2.out).mono ?_); (case side1 => exact HR0.out); (case side2 => exact HC0.out); rintro e w4 ⟨v, rfl, hm, hb⟩; refine ⟨_, rfl, ?_⟩; have n0_ := Aside0.mk (below_step HB.out hb); clear HB; have HB := n0_; clear n0_ hb hm))
    go_ret2
    exact ⟨_, by first | rfl | (simp [*] <;> rfl), Kd.R_nil _ _ _ _ _, HB.out⟩
end PMergeExt

/-! ### payslip_Compare: function 35 -/
section PCompareExt
open Go.Proofs.Ytdlljjglmcpniaa.MapKit Go.Proofs.Ytdlljjglmcpniaa.ListKit
def cmpPure (d m : List (Pr Int Str × Int)) : List S56 × Int := if (subG ltK d m).all (fun p => tot p.2) = true then (linesL (subG ltK d m), 0) else ([], 4)
def payslip_Compare.f (k : Nat) (l0 l1 : List S56) : Option (List S56 × Int) :=
  (payslip_sums.f k l0).bind fun x => if x.2 = 0 then (payslip_sums.f k l1).bind (fun y => if y.2 = 0 then some (cmpPure y.1 x.1) else some ([], y.2)) else some ([], x.2)
theorem payslip_Compare.mono : ∀ a0 a1 k, LeO (payslip_Compare.f k a0 a1) (payslip_Compare.f (k + 1) a0 a1) := by
  intro a0 a1 k
  unfold payslip_Compare.f
  refine LeO.bind (payslip_sums.mono _ _) fun x => ?_
  by_cases h : x.2 = 0
  · rw [if_pos h, if_pos h]; exact LeO.bind (payslip_sums.mono _ _) fun _ => LeO.refl _
  · rw [if_neg h, if_neg h]; exact LeO.refl _
set_option maxHeartbeats 8000000 in
set_option maxRecDepth 100000 in
theorem payslip_Compare.calls (k : Nat) (A0 : Option Addr) (c0 : Nat) (l0 : List S56) (A1 : Option Addr) (c1 : Nat) (l1 : List S56) (r1 : List S56) (r2 : Int) (w : World) (hr0 : Kd.C k56 w A0 l0.length l0) (hc0 : l0.length ≤ c0) (hr1 : Kd.C k56 w A1 l1.length l1) (hc1 : l1.length ≤ c1) (h : payslip_Compare.f k l0 l1 = some (r1, r2)) :
    Calls Try.prog 35 #[.slice A0 l0.length c0, .slice A1 l1.length c1] w fun e w' => ∃ v0_ : Value, e = .returned (.tuple #[v0_, .int .i64 r2]) ∧ Kd.R k56 56 w' w.heap.size (fun _ => True) v0_ r1 ∧ Below w.heap.size w w' := by
  have hu80 := Try.underlying80
  have HR0 := Aside0.mk hr0
  have HC0 := Aside0.mk hc0
  have HR1 := Aside0.mk hr1
  have HC1 := Aside0.mk hc1
  clear hr0 hc0 hr1 hc1
  have HB := Aside0.mk (Below.refl w.heap.size w)
  unfold payslip_Compare.f at h
  obtain ⟨⟨m, t⟩, A20, H⟩ := Option.bind_eq_some_iff.1 h
  replace H : (if t = 0 then (payslip_sums.f k l1).bind (fun y => if y.2 = 0 then some (cmpPure y.1 m) else some ([], y.2)) else some ([], t)) = some (r1, r2) := H
  have A2 := Aside0.mk A20
  clear h A20
  by_cases c3 : t = 0
  · rw [if_pos c3] at H
    subst c3
    obtain ⟨⟨d, t2⟩, A30, H⟩ := Option.bind_eq_some_iff.1 H
    replace H : (if t2 = 0 then some (cmpPure d m) else some ([], t2)) = some (r1, r2) := H
    have A3 := Aside0.mk A30
    clear A30
    have V := Aside0.mk (psums_ok k l0 m A2.out)
    by_cases c4 : t2 = 0
    · rw [if_pos c4] at H
      subst c4
      have V2 := Aside0.mk (psums_ok k l1 d A3.out)
      have HP := Aside0.mk (Option.some.inj H)
      have VM := Aside0.mk (show Asc ltK m by rw [V.out.1]; exact sumsL_asc l0)
      have VD := Aside0.mk (show Asc ltK d by rw [V2.out.1]; exact sumsL_asc l1)
      have VLM := Aside0.mk (show m.length ≤ 65536 by rw [V.out.1]; have := sumsL_len l0; have := V.out.2; omega)
      have VLD := Aside0.mk (show d.length ≤ 65536 by rw [V2.out.1]; have := sumsL_len l1; have := V2.out.2; omega)
      clear H V V2
      go_enter Try.func35, Try.ntmps35
      go_wp2_with (first
        | ((with_reducible refine gate_callee (f := 50) rfl ?_); refine goesL_ (some 15) rfl rfl Try.func50 (by kernel_rfl) rfl #[.slice A0 l0.length c0] rfl (by (try simp only [List.map_toArray, List.map_cons, List.map_nil]); first | done | rfl) ?_; (with_reducible refine (payslip_sums.calls k _ _ l0 m 0 _ ?side1 ?side2 A2.out).mono ?_); (case side1 => exact Kd.C_below HR0.out HB.out); (case side2 => exact HC0.out); rintro e w4 ⟨v, rfl, hm, hb⟩; obtain ⟨mb, rfl, hmb, hM⟩ := hm rfl; refine ⟨_, rfl, ?_⟩; have n0_ := Aside0.mk (below_step HB.out hb); have HM := Aside0.mk hM; have GEM := Aside0.mk hmb; clear HB; have HB := n0_; clear n0_ hb hM hmb)
        | ((with_reducible refine gate_callee (f := 50) rfl ?_); refine goesL_ (some 23) rfl rfl Try.func50 (by kernel_rfl) rfl #[.slice A1 l1.length c1] rfl (by (try simp only [List.map_toArray, List.map_cons, List.map_nil]); first | done | rfl) ?_; (with_reducible refine (payslip_sums.calls k _ _ l1 d 0 _ ?side1 ?side2 A3.out).mono ?_); (case side1 => exact Kd.C_below HR1.out HB.out); (case side2 => exact HC1.out); rintro e w5 ⟨v, rfl, hm, hb⟩; obtain ⟨db, rfl, hdb, hD⟩ := hm rfl; refine ⟨_, rfl, ?_⟩; have n0_ := Aside0.mk (below_step HB.out hb); have HD_ := Aside0.mk hD; have GED := Aside0.mk (Nat.le_trans (below_size HB.out) hdb); have NEM := Aside0.mk ((Nat.ne_of_lt (Nat.lt_of_lt_of_le HM.out.lt hdb)) : mb ≠ db); have n1_ := Aside0.mk (HM.out.below hb); clear HM; have HM := n1_; clear n1_ hD hdb; clear HB; have HB := n0_; clear n0_ hb)
        | (at_range; refine lineMK.range_op _ rfl _ rfl mb 65536 m rfl HM.out ?_; intro rb w9 hrb hr hgr; have HR := Aside0.mk hr; have GER := Aside0.mk ((by rw [hrb]; exact below_size HB.out) : w.heap.size ≤ rb); have NER := Aside0.mk ((by rw [hrb]; exact (Nat.ne_of_lt HD_.out.lt).symm) : rb ≠ db); have n0_ := Aside0.mk (pw_below_grown HB.out none (below_size HB.out) hgr (by simp)); have n1_ := Aside0.mk (HD_.out.kept hgr (by simp)); clear HB HM HD_; have HB := n0_; have HD_ := n1_; clear n0_ n1_ hr hgr hrb))
      try go_frame
      go_loopw [] (fun wr => ∃ done : List (Pr Int Str × Int), Aside0 (lineMK.Ranges wr mb rb 65536 m done) ∧ Aside0 (lineMK.Is wr db (65536 + done.length) (subG ltK d done)) ∧ Aside0 (Below w.heap.size w wr)) (fun wr => wr.rangeLeft mb rb)
      case atStart => exact ⟨[], HR, ⟨HD_.out⟩, HB⟩
      case round =>
        clear HR HB HD_
        obtain ⟨done, HR, HD_, HB⟩ := hrel
        have HDL := Aside0.mk (show done.length ≤ 65536 by
          have hnd : (done.map (·.1)).Nodup := by
            obtain ⟨_, _, _, _, _, _, _, hn⟩ := HR.out
            exact hn
          have hsub : (done.map (·.1)).length ≤ (m.map (·.1)).length := by
            refine List.Nodup.length_le_of_subset hnd fun y hy => ?_
            obtain ⟨_, _, _, _, _, _, hd, _⟩ := HR.out
            obtain ⟨q, hq, rfl⟩ := List.mem_map.1 hy
            exact List.mem_map.2 ⟨q, mem_of_lookup (hd q.1 q.2 hq).1, rfl⟩
          have h3 := VLM.out
          simp only [List.length_map] at hsub
          omega)
        go_wp2_with (first
          | (at_next; refine next_pis lineMK (fun _ => rfl) (fun _ => rfl) _ rfl _ rfl mb rb 65536 m done rfl HR.out ?_ ?_))
        · intro hall
          have hnd : (done.map (·.1)).Nodup := by
            obtain ⟨_, _, _, _, _, _, _, hn⟩ := HR.out
            exact hn
          have n1_ := Aside0.mk ((HD_.out.mono (by have := HDL.out; omega : 65536 + done.length ≤ 131072)).congr (m' := subG ltK d m) (fun x => subG_same d (VM.out.nodup orderK) hnd (fun y => (hall y).symm) x))
          have VA := Aside0.mk (subG_asc orderK m d VD.out)
          have VL := Aside0.mk (show (subG ltK d m).length ≤ 131072 by have := subG_len (lt := ltK) m d; have := VLM.out; have := VLD.out; omega)
          clear hall hnd HD_ HDL HR
          have HM := n1_
          clear n1_
          have HQ := HP.out
          unfold cmpPure at HQ
          obtain ⟨q, hq⟩ : ∃ q, q = subG ltK d m := ⟨_, rfl⟩
          rw [← hq] at HM VA VL HQ
          have HP2 := Aside0.mk HQ
          clear hq HQ
          go_wp2_with (first
            | (at_range; refine lineMK.range_op _ rfl _ rfl db 131072 q rfl HM.out ?_; intro rb2 w9 hrb hr hgr; have HR := Aside0.mk hr; have GER2 := Aside0.mk ((by rw [hrb]; exact below_size HB.out) : w.heap.size ≤ rb2); have n0_ := Aside0.mk (pw_below_grown HB.out none (below_size HB.out) hgr (by simp)); clear HB HM; have HB := n0_; clear n0_ hr hgr hrb))
          try go_frame
          go_loopw [] (fun wr => ∃ done : List (Pr Int Str × Int), Aside0 (lineMK.Ranges wr db rb2 131072 q done) ∧ Aside0 (∀ p ∈ done, tot p.2 = true) ∧ Aside0 (Below w.heap.size w wr)) (fun wr => wr.rangeLeft db rb2)
          case atStart => exact ⟨[], HR, ⟨by simp⟩, HB⟩
          case round =>
            clear HR HB
            obtain ⟨done2, HR, HD, HB⟩ := hrel
            go_wp2_with (first
              | (at_next; refine next_pis lineMK (fun _ => rfl) (fun _ => rfl) _ rfl _ rfl db rb2 131072 q done2 rfl HR.out ?_ ?_))
            · intro hall
              have hnd : (done2.map (·.1)).Nodup := by
                obtain ⟨_, _, _, _, _, _, _, hn⟩ := HR.out
                exact hn
              have hperm := perm_of_lookup hnd (VA.out.nodup orderK) hall
              have hany : q.all (fun p => tot p.2) = true := by
                rw [List.all_eq_true]
                intro p hp
                exact HD.out p (hperm.mem_iff.2 hp)
              have H := HP2.out
              rw [hany, if_pos rfl] at H
              simp only [Prod.mk.injEq] at H
              obtain ⟨rfl, rfl⟩ := H
              have HM := Aside0.mk HR.out.is
              clear hall hnd hperm hany HD HP2 HR
              go_wp2_with (first
                | ((with_reducible refine gate_callee (f := 52) rfl ?_); refine goesL_ (some 53) rfl rfl Try.func52 (by kernel_rfl) rfl #[.map (some db)] rfl (by (try simp only [List.map_toArray, List.map_cons, List.map_nil]); first | done | rfl) ?_; refine (payslip_lines.calls q 131072 db _ HM.out VA.out VL.out).mono ?_; rintro e w5 ⟨v, rfl, hR, hb⟩; refine ⟨_, rfl, ?_⟩; have HO := Aside0.mk (Kd.R_lower hR (below_size HB.out)); have n0_ := Aside0.mk (below_step HB.out hb); clear HB; have HB := n0_; clear n0_ hb hR))
              go_ret2
              exact ⟨_, rfl, HO.out, HB.out⟩
            · intro x c w1 hwx hwc hmx hdx hr hlt hg hsz hen
              have HR2 := Aside0.mk hr
              have HLT := Aside0.mk hlt
              have HMX := Aside0.mk (mem_of_lookup hmx)
              have n0_ := Aside0.mk (pw_below_grown HB.out _ (below_size HB.out) hg (fun k e => by cases e; exact GER2.out))
              clear HB; have HB := n0_
              clear n0_ hmx hdx hr hlt hg hsz hwx hwc HR
              obtain ⟨b, hb⟩ : ∃ b, b = tot c := ⟨_, rfl⟩
              have A9 := Aside0.mk (tot_eq c)
              rw [← hb] at A9
              have HBB := Aside0.mk hb
              clear hb
              cases b with
              | true =>
                go_wp2_with (first
                  | ((with_reducible refine gate_callee (f := 51) rfl ?_); refine goesL_ (some 50) rfl rfl Try.func51 (by kernel_rfl) rfl #[.int .i64 c] rfl (by (try simp only [List.map_toArray, List.map_cons, List.map_nil]); first | done | rfl) ?_; (with_reducible refine (payslip_total.calls c true _ A9.out).mono ?_); rintro e w4 ⟨rfl, ⟨nd, rfl⟩⟩; refine ⟨_, rfl, ?_⟩))
                go_roundw
                case rel => exact ⟨done2 ++ [(x, c)], ⟨HR2.out.drewN _⟩, ⟨fun p hp => (List.mem_append.1 hp).elim (fun hp => HD.out p hp) (fun hp => by rw [List.mem_singleton] at hp; subst hp; exact HBB.out.symm)⟩, ⟨by repeat (first | exact HB.out | apply pw_below_drewN)⟩⟩
                case measure => exact HLT.out
              | false =>
                have hany : q.all (fun p => tot p.2) = false := by
                  rw [Bool.eq_false_iff]
                  intro hc
                  have := List.all_eq_true.1 hc _ HMX.out
                  rw [← HBB.out] at this
                  cases this
                have H := HP2.out
                rw [hany, if_neg (by simp)] at H
                simp only [Prod.mk.injEq] at H
                obtain ⟨rfl, rfl⟩ := H
                clear hany HP2
                go_wp2_with (first
                  | ((with_reducible refine gate_callee (f := 51) rfl ?_); refine goesL_ (some 50) rfl rfl Try.func51 (by kernel_rfl) rfl #[.int .i64 c] rfl (by (try simp only [List.map_toArray, List.map_cons, List.map_nil]); first | done | rfl) ?_; (with_reducible refine (payslip_total.calls c false _ A9.out).mono ?_); rintro e w4 ⟨rfl, ⟨nd, rfl⟩⟩; refine ⟨_, rfl, ?_⟩))
                go_ret2
                exact ⟨_, by first | rfl | (simp [*] <;> rfl), Kd.R_nil _ _ _ _ _, by repeat (first | exact HB.out | apply pw_below_drewN)⟩
        · intro x c w1 hwx hwc hmx hdx hr hlt hg hsz hen
          have HR2 := Aside0.mk hr
          have HLT := Aside0.mk hlt
          have HKX := Aside0.mk hwx
          have n1_ := Aside0.mk (HD_.out.kept hg (fun e => NER.out (Option.some.inj e).symm))
          have n0_ := Aside0.mk (pw_below_grown HB.out _ (below_size HB.out) hg (fun k e => by cases e; exact GER.out))
          clear HB HD_; have HB := n0_; have HD_ := n1_
          clear n0_ n1_ hmx hdx hr hlt hg hsz hwx hwc HR
          go_wp2_with (first
            | ((with_reducible refine gate_dst (N := 9) rfl ?_); refine box_event ?hg (N := 9) ?hd (cs := #[.int .i64 0, .string ⟨#[]⟩]) (t := 80) ?hr ?_; (case hd => rfl); (case hg => rfl); (case hr => first | (go_simp; done) | (go_simp; rfl)); intro gb2 hg w7 hbox hb; have n0_ := Aside0.mk (below_step HB.out hb); have n1_ := Aside0.mk (HD_.out.below hb); have n2_ := Aside0.mk (HR2.out.kept (grown_of_below hb none) (by simp) (by simp)); have GE2 := Aside0.mk ((by rw [hg]; exact below_size HB.out) : w.heap.size ≤ gb2); have NE2 := Aside0.mk ((by rw [hg]; exact Nat.ne_of_lt HD_.out.lt) : db ≠ gb2); have NE3 := Aside0.mk ((by rw [hg]; exact Nat.ne_of_lt HR2.out.lt) : rb ≠ gb2); have NE4 := Aside0.mk ((by rw [hg]; exact Nat.ne_of_lt HR2.out.is.lt) : mb ≠ gb2); have BK := Aside0.mk hbox; have HLE := Aside0.mk n2_.out.2; clear HB HD_ HR2; have HB := n0_; have HD_ := n1_; have HR2 := Aside0.mk n2_.out.1; clear n0_ n1_ n2_ hb hg; have hz0 : w7.cell? ⟨gb2, 0, none⟩ = some (.int .i64 0) := (blk_cell hbox 0).trans rfl; have hz1 : w7.cell? ⟨gb2, 1, none⟩ = some (.string ⟨#[]⟩) := (blk_cell hbox 1).trans rfl; have hf0 := blk_frozen hbox 0; have hf1 := blk_frozen hbox 1; clear hbox))
          obtain ⟨w4, hw4⟩ : ∃ W, W = (w7.setCell ⟨gb2, 0, none⟩ (.int .i64 x.a)).setCell ⟨gb2, 1, none⟩ (.string x.b.s) := ⟨_, rfl⟩
          rw [← hw4]
          have n0_ := Aside0.mk (show Below w.heap.size w w4 by rw [hw4]; exact below_set (below_set HB.out GE2.out) GE2.out)
          have n1_ := Aside0.mk (show lineMK.Is w4 db (65536 + done.length) (subG ltK d done) by rw [hw4]; exact (HD_.out.far NE2.out _).far NE2.out _)
          have n2_ : Aside0 (w4.heap[gb2]? = some (.cells #[.int .i64 x.a, .string x.b.s] 80 (0, 0))) := Aside0.mk (by rw [hw4]; exact blk_put (blk_put BK.out 0 _ rfl) 1 _ rfl)
          have k1 := HR2.out.kept (pset_grown w7 ⟨gb2, 0, none⟩ (.int .i64 x.a)) (fun e => NE4.out (Option.some.inj e)) (fun e => NE3.out (Option.some.inj e))
          have k2 := k1.1.kept (pset_grown _ ⟨gb2, 1, none⟩ (.string x.b.s)) (fun e => NE4.out (Option.some.inj e)) (fun e => NE3.out (Option.some.inj e))
          rw [← hw4] at k2
          have n3_ := Aside0.mk k2.1
          have n4_ := Aside0.mk (show w4.rangeLeft mb rb < wr.rangeLeft mb rb by rw [k2.2, k1.2, HLE.out]; exact HLT.out)
          clear HB HD_ BK HR2 HLE HLT hw4 k1 k2 hz0 hz1 hf0 hf1
          have HB := n0_; have HD_ := n1_; have BK := n2_; have HR2 := n3_; have HLT := n4_
          clear n0_ n1_ n2_ n3_ n4_
          obtain ⟨v0, st, w5, hE, hL0, hL1, hwf, hg1, hS⟩ := lineMK.entry_op lineLaw (w := w4.drew) HD_.out.drew (by have := HDL.out; unfold maxLen; omega) 0 lineZero rfl x HKX.out
          obtain ⟨w6, hSt, his, hg2⟩ := hS (wrap64 (((subG ltK d done).lookup x).getD 0 - c)) (wrap64_wf _) (subG ltK d (done ++ [(x, c)])) (fun y => by rw [subG_snoc]; exact lookup_putL ltK _ _ _ y)
          have BK1 := blk_grown (blk_drew BK.out) hg1 (fun e => NE2.out (Option.some.inj e).symm)
          have BK2 := blk_grown (blk_drew BK.out) hg2 (fun e => NE2.out (Option.some.inj e).symm)
          have hS0 : w4.drew.cell? ⟨gb2, 0, none⟩ = some (.int .i64 x.a) ∧ w4.drew.cell? ⟨gb2, 1, none⟩ = some (.string x.b.s) := ⟨(blk_cell (blk_drew BK.out) 0).trans rfl, (blk_cell (blk_drew BK.out) 1).trans rfl⟩
          have hS1 : w5.cell? ⟨gb2, 0, none⟩ = some (.int .i64 x.a) ∧ w5.cell? ⟨gb2, 1, none⟩ = some (.string x.b.s) := ⟨(blk_cell BK1 0).trans rfl, (blk_cell BK1 1).trans rfl⟩
          have hS2 : w6.cell? ⟨gb2, 0, none⟩ = some (.int .i64 x.a) ∧ w6.cell? ⟨gb2, 1, none⟩ = some (.string x.b.s) := ⟨(blk_cell BK2 0).trans rfl, (blk_cell BK2 1).trans rfl⟩
          have n0_ := Aside0.mk (pw_below_grown (below_drew1 HB.out) _ (below_size (below_drew1 HB.out)) hg2 (fun k e => by cases e; exact GED.out))
          have k1 := (show lineMK.Ranges w4.drew mb rb 65536 m (done ++ [(x, c)]) from HR2.out).kept hg2 (fun e => NEM.out (Option.some.inj e)) (fun e => NER.out (Option.some.inj e))
          have n1_ := Aside0.mk k1.1
          have n2_ := Aside0.mk (show w6.rangeLeft mb rb < wr.rangeLeft mb rb by rw [k1.2]; exact HLT.out)
          clear BK1 BK2 hg1 hg2 BK k1 HR2 HLT HB HD_
          have HB := n0_; have HR2 := n1_; have HLT := n2_
          have HD_ := Aside0.mk his
          clear n0_ n1_ n2_ his
          replace hE : (Instr.mapEntry 76 (.map (some db)) (.agg #[.int .i64 x.a, .string x.b.s])).run Try.prog w4.drew = .ok (.tuple #[v0, .int .i64 (st : Int)]) w5 := hE
          replace hL0 : (Instr.lookup 76 (.map (some db)) (.agg #[.int .i64 x.a, .string x.b.s]) false).run Try.prog w4.drew = .ok (.int .i64 (((subG ltK d done).lookup x).getD 0)) w4.drew := hL0
          replace hL1 : (Instr.lookup 76 (.map (some db)) (.agg #[.int .i64 x.a, .string x.b.s]) false).run Try.prog w5 = .ok (.int .i64 (((subG ltK d done).lookup x).getD 0)) w5 := hL1
          replace hSt : (Instr.entryStore 76 (.map (some db)) (.int .i64 (st : Int)) (.int .i64 (IntKind.i64.wrap (((subG ltK d done).lookup x).getD 0 - c)))).run Try.prog w5 = .ok () w6 := by rw [wrapEq]; exact hSt
          go_region_held (fun w' => w'.cell? ⟨gb2, 0, none⟩ = some (.int .i64 x.a) ∧ w'.cell? ⟨gb2, 1, none⟩ = some (.string x.b.s)) (first | exact hS0 | exact hS1 | exact hS2) (fail)
          all_goals clear hS0 hS1 hS2 hE hL0 hL1 hSt hS hwf
          all_goals go_roundw
          case rel | rel => exact ⟨_, _, _, _, _, _, _, _, _, _, _, _, _, _, ⟨done ++ [(x, c)], HR2, ⟨by rw [List.length_append, List.length_singleton, ← Nat.add_assoc]; exact HD_.out⟩, HB⟩, rfl⟩
          case measure | measure => exact HLT.out
    · rw [if_neg c4] at H
      have c4b0 : (t2 == 0) = false := beq_eq_false_iff_ne.mpr c4
      have c4b1 : (t2 != 0) = true := bne_iff_ne.mpr c4
      simp only [Option.some.injEq, Prod.mk.injEq] at H
      obtain ⟨rfl, rfl⟩ := H
      clear c4 V
      go_enter Try.func35, Try.ntmps35
      go_wp2_with (first
        | ((with_reducible refine gate_callee (f := 50) rfl ?_); refine goesL_ (some 15) rfl rfl Try.func50 (by kernel_rfl) rfl #[.slice A0 l0.length c0] rfl (by (try simp only [List.map_toArray, List.map_cons, List.map_nil]); first | done | rfl) ?_; (with_reducible refine (payslip_sums.calls k _ _ l0 m 0 _ ?side1 ?side2 A2.out).mono ?_); (case side1 => exact Kd.C_below HR0.out HB.out); (case side2 => exact HC0.out); rintro e w4 ⟨v, rfl, hm, hb⟩; obtain ⟨mb, rfl, hmb, hM⟩ := hm rfl; refine ⟨_, rfl, ?_⟩; have n0_ := Aside0.mk (below_step HB.out hb); have HM := Aside0.mk hM; have GEM := Aside0.mk hmb; clear HB; have HB := n0_; clear n0_ hb hM hmb)
        | ((with_reducible refine gate_callee (f := 50) rfl ?_); refine goesL_ (some 23) rfl rfl Try.func50 (by kernel_rfl) rfl #[.slice A1 l1.length c1] rfl (by (try simp only [List.map_toArray, List.map_cons, List.map_nil]); first | done | rfl) ?_; (with_reducible refine (payslip_sums.calls k _ _ l1 d t2 _ ?side1 ?side2 A3.out).mono ?_); (case side1 => exact Kd.C_below HR1.out HB.out); (case side2 => exact HC1.out); rintro e w5 ⟨v, rfl, hm, hb⟩; clear hm; refine ⟨_, rfl, ?_⟩; have n0_ := Aside0.mk (below_step HB.out hb); clear HB; have HB := n0_; clear n0_ hb))
      go_ret2
      exact ⟨_, by first | rfl | (simp [*] <;> rfl), Kd.R_nil _ _ _ _ _, HB.out⟩
  · rw [if_neg c3] at H
    have c3b0 : (t == 0) = false := beq_eq_false_iff_ne.mpr c3
    have c3b1 : (t != 0) = true := bne_iff_ne.mpr c3
    simp only [Option.some.injEq, Prod.mk.injEq] at H
    obtain ⟨rfl, rfl⟩ := H
    clear c3
    go_enter Try.func35, Try.ntmps35
    go_wp2_with (first
      | ((with_reducible refine gate_callee (f := 50) rfl ?_); refine goesL_ (some 15) rfl rfl Try.func50 (by kernel_rfl) rfl #[.slice A0 l0.length c0] rfl (by (try simp only [List.map_toArray, List.map_cons, List.map_nil]); first | done | rfl) ?_; (with_reducible refine (payslip_sums.calls k _ _ l0 m t _ ?side1 ?side2 A2.out).mono ?_); (case side1 => exact Kd.C_below HR0.out HB.out); (case side2 => exact HC0.out); rintro e w4 ⟨v, rfl, hm, hb⟩; clear hm; refine ⟨_, rfl, ?_⟩; have n0_ := Aside0.mk (below_step HB.out hb); clear HB; have HB := n0_; clear n0_ hb))
    go_ret2
    exact ⟨_, by first | rfl | (simp [*] <;> rfl), Kd.R_nil _ _ _ _ _, HB.out⟩
end PCompareExt

end Go.Proofs.Ytdlljjglmcpniaa.Q
