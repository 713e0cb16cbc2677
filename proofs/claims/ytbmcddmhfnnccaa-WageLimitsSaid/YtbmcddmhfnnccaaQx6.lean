-- Printed by wip/xprint.py over the translation, with contracts proved by hand among them. Lean checks it.
import Derived.Test.YtbmcddmhfnnccaaQx0
import Derived.Test.YtbmcddmhfnnccaaQx4
namespace Go.Proofs.Ytbmcddmhfnnccaa.Q
open Go.RowKit Go.Proofs.YtbmcddmhfnnccaaW.PrintWords Go.Proofs.YtbmcddmhfnnccaaW.PrintLast Go.Proofs.YtbmcddmhfnnccaaW.PrintMore
attribute [local go_sem] max2_int min2_int max_two min_two max_three min_three max_four min_four   -- for this text's walks alone
set_option linter.unusedVariables false
set_option linter.unusedSimpArgs false

/-! ### wage_amount: function 44 -/
def wage_amount.f (a0 : Int) : Option (Bool) := if a0 ≥ (-1000000000) then (some (decide (a0 ≤ 1000000000))) else (some false)
set_option maxHeartbeats 8000000 in
set_option maxRecDepth 100000 in
theorem wage_amount.calls (a0 : Int) (r : Bool) (w : World) (h : wage_amount.f a0 = some r) :
    Calls Try.prog 44 #[.int .i64 a0] w fun e w' => e = .returned (.bool r) ∧ Drawn0 w w' := by
  have H : (if a0 ≥ (-1000000000) then (some (decide (a0 ≤ 1000000000))) else (some false)) = some r := h
  clear h
  by_cases c2 : a0 ≥ (-1000000000)
  · rw [if_pos c2] at H
    have c2b0 : decide ((-1000000000) ≤ a0) = true := decide_eq_true c2
    clear c2
    obtain rfl := Option.some.inj H
    go_enter Try.func44, Try.ntmps44
    go_wp2
    go_ret
    exact ⟨by first | rfl | (simp; done) | (simp [*]; done), by repeat (first | exact Drawn0.refl _ | apply Drawn0.step)⟩
  · rw [if_neg c2] at H
    have c2b0 : decide ((-1000000000) ≤ a0) = false := decide_eq_false c2
    clear c2
    obtain rfl := Option.some.inj H
    go_enter Try.func44, Try.ntmps44
    go_wp2
    go_ret
    exact ⟨by first | rfl | (simp; done) | (simp [*]; done), by repeat (first | exact Drawn0.refl _ | apply Drawn0.step)⟩

/-! ### wage_Merge: function 24 -/
section SumsExt
open Go.Proofs.Ytbmcddmhfnnccaa.MapKit Go.Proofs.Ytbmcddmhfnnccaa.ListKit
def addE (m : List (Str × Int)) (e : S44) : List (Str × Int) := putL ltB ⟨e.f0⟩ (wrap64 ((m.lookup ⟨e.f0⟩).getD 0 + e.f1)) m
/-- The sums of the amounts of each code, ascending. -/
def addAll (l : List S44) : List (Str × Int) := l.foldl addE []
def amt (n : Int) : Bool := decide (-1000000000 ≤ n ∧ n ≤ 1000000000)
def nameAll (k : Nat) : List S44 → Option Bool
  | [] => some true
  | e :: r => (token_IsName.f k e.f0).bind fun b => if b = true then nameAll k r else some false
theorem nameAll.mono : ∀ (l : List S44) k, LeO (nameAll k l) (nameAll (k + 1) l)
  | [], k => LeO.refl _
  | e :: r, k => by
    unfold nameAll
    refine LeO.bind (token_IsName.mono _ _) fun b => ?_
    by_cases hb : b = true
    · rw [if_pos hb, if_pos hb]; exact nameAll.mono r k
    · rw [if_neg hb, if_neg hb]; exact LeO.refl _
def wage_sums.f (k : Nat) (l : List S44) : Option (List (Str × Int) × Int) :=
  if (l.length : Int) > 128 then some ([], 3) else (nameAll k l).bind fun ok => if ok = true then (if l.all (fun e => amt e.f1) = true then (if (addAll l).all (fun p => amt p.2) = true then some (addAll l, 0) else some ([], 4)) else some ([], 2)) else some ([], 7)
theorem wage_sums.mono : ∀ a0 k, LeO (wage_sums.f k a0) (wage_sums.f (k + 1) a0) := by
  intro a0 k
  unfold wage_sums.f
  split
  · exact LeO.refl _
  · exact LeO.bind (nameAll.mono _ _) fun _ => LeO.refl _
theorem amt_eq (n : Int) : wage_amount.f n = some (amt n) := by
  unfold wage_amount.f amt
  by_cases h : n ≥ (-1000000000)
  · rw [if_pos h]; congr 1; by_cases h2 : n ≤ 1000000000
    · rw [decide_eq_true h2, decide_eq_true ⟨h, h2⟩]
    · rw [decide_eq_false h2, decide_eq_false (fun c => h2 c.2)]
  · rw [if_neg h]; rw [decide_eq_false (fun c => h c.1)]
theorem name_size (k : Nat) (s : ByteArray) (h : token_IsName.f k s = some true) : s.size ≤ 24 := by
  unfold token_IsName.f at h
  have hj : token_IsName.j0 k s true ≠ some true := by cases k <;> simp [token_IsName.j0]
  by_cases c1 : s.toList = ([] : List UInt8)
  · rw [if_pos c1] at h; exact absurd h hj
  rw [if_neg c1] at h
  by_cases c2 : (s.size : Int) > 24
  · rw [if_pos c2] at h; exact absurd h hj
  · omega
theorem nameAll_true (k : Nat) : ∀ (l : List S44), nameAll k l = some true → ∀ e ∈ l, e.f0.size ≤ 24
  | [], _, e, he => by cases he
  | x :: r, h, e, he => by
    unfold nameAll at h
    obtain ⟨b, hb, h⟩ := Option.bind_eq_some_iff.1 h
    by_cases c : b = true
    · rw [if_pos c] at h
      subst c
      rcases List.mem_cons.1 he with rfl | he
      · exact name_size k _ hb
      · exact nameAll_true k r h e he
    · rw [if_neg c] at h; cases h
theorem addAll_snoc (l : List S44) (p : S44) : addAll (l ++ [p]) = addE (addAll l) p := by simp [addAll, List.foldl_append]
theorem addAll_take (l : List S44) (j : Nat) (hj : j < l.length) : addAll (l.take (j + 1)) = addE (addAll (l.take j)) (rd_T44 l j) := by
  rw [List.take_succ_eq_append_getElem hj, addAll_snoc]
  simp [rd_T44, List.getD_eq_getElem?_getD, List.getElem?_eq_getElem hj]
theorem addAll_asc (l : List S44) : Asc ltB (addAll l) := by
  have : ∀ (l : List S44) (m : List (Str × Int)), Asc ltB m → Asc ltB (l.foldl addE m) := by
    intro l
    induction l with
    | nil => intro m h; exact h
    | cons p r ih => intro m h; exact ih _ (h.put orderB _ _)
  exact this l [] List.Pairwise.nil
theorem rd_drop (l : List S44) (x : Int) (h0 : 0 ≤ x) (h : x < (l.length : Int)) : l.drop x.toNat = rd_T44 l x :: l.drop (x + 1).toNat := by
  have hlt : x.toNat < l.length := by omega
  rw [List.drop_eq_getElem_cons hlt, show (x + 1).toNat = x.toNat + 1 by omega]
  congr 1
  simp [rd_T44, List.getD_eq_getElem?_getD, List.getElem?_eq_getElem hlt]
theorem rd_mem (l : List S44) (x : Int) (h0 : 0 ≤ x) (h : x < (l.length : Int)) : rd_T44 l x ∈ l := by
  have hlt : x.toNat < l.length := by omega
  have : rd_T44 l x = l[x.toNat] := by simp [rd_T44, List.getD_eq_getElem?_getD, List.getElem?_eq_getElem hlt]
  rw [this]; exact List.getElem_mem hlt
noncomputable def wageMK : MK Try.prog 64 9 3 Str Int := MK.si Try.prog 64 9 3 .i64 Try.underlying9 Try.underlying3 Try.underlying64
theorem wageZero (w : World) : (zeroValue 3).run Try.prog w = .ok (.int .i64 0) w := by kernel_rfl
theorem min_le {a b : Nat} (h : a ≤ b) : a ≤ b := h
set_option maxHeartbeats 8000000 in
set_option maxRecDepth 100000 in
theorem wage_sums.calls (k : Nat) (A0 : Option Addr) (c0 : Nat) (l0 : List S44) (r1 : List (Str × Int)) (r2 : Int) (w : World) (hr0 : Kd.C k44 w A0 l0.length l0) (hc0 : l0.length ≤ c0) (h : wage_sums.f k l0 = some (r1, r2)) :
    Calls Try.prog 35 #[.slice A0 l0.length c0] w fun e w' => ∃ v0_ : Value, e = .returned (.tuple #[v0_, .int .i64 r2]) ∧ (r2 = 0 → ∃ mb, v0_ = .map (some mb) ∧ w.heap.size ≤ mb ∧ wageMK.Is w' mb 128 r1) ∧ Below w.heap.size w w' := by
  have hu44 := Try.underlying44
  have HR0 := Aside0.mk hr0
  have HC0 := Aside0.mk hc0
  clear hr0 hc0
  have HB := Aside0.mk (Below.refl w.heap.size w)
  unfold wage_sums.f at h
  by_cases c1 : (l0.length : Int) > 128
  · rw [if_pos c1] at h
    simp only [Option.some.injEq, Prod.mk.injEq] at h
    obtain ⟨rfl, rfl⟩ := h
    have c1b0 : decide ((128 : Int) < (l0.length : Int)) = true := decide_eq_true c1
    clear c1
    go_enter Try.func35, Try.ntmps35
    go_wp2
    go_ret2
    exact ⟨_, rfl, (fun h => by cases h), HB.out⟩
  · rw [if_neg c1] at h
    have c1b0 : decide ((128 : Int) < (l0.length : Int)) = false := decide_eq_false c1
    obtain ⟨ok, hok, h⟩ := Option.bind_eq_some_iff.1 h
    have HL := Aside0.mk (show l0.length ≤ 128 by omega)
    have H' := Aside0.mk h
    have HOK := Aside0.mk hok
    clear c1 h hok
    go_enter Try.func35, Try.ntmps35
    go_wp2
    clear c1b0
    go_loopw [16] (fun i wr => ∃ x : Int, i = .int .i64 x ∧ Aside0 (0 ≤ x ∧ x ≤ l0.length) ∧ Aside0 (nameAll k (l0.drop x.toNat) = some ok) ∧ Aside0 (Below w.heap.size w wr)) (fun i _ => l0.length - (intOf i).toNat)
    case atStart => exact ⟨0, rfl, ⟨by omega, by omega⟩, HOK, HB⟩
    case round =>
      clear HB
      obtain ⟨x, rfl, HX, HN, HB⟩ := hrel
      by_cases c7 : x < (l0.length : Int)
      · have c7b0 : decide (x < (l0.length : Int)) = true := decide_eq_true c7
        have p117 : 0 ≤ x := HX.out.1
        have q117 : x < (l0.length : Int) := c7
        have HY := Aside0.mk c7
        have hn := HN.out
        rw [rd_drop l0 x p117 c7] at hn
        unfold nameAll at hn
        obtain ⟨b, hb, hn⟩ := Option.bind_eq_some_iff.1 hn
        have A9 := Aside0.mk hb
        have HN2 := Aside0.mk hn
        clear hb hn c7 HN
        obtain ⟨ad117, e117, hx117_0, hx117_1⟩ := at_T44 HR0.out x p117 q117
        cases e117
        replace hx117_0 := pw_cell_below HB.out hx117_0
        replace hx117_1 := pw_cell_below HB.out hx117_1
        replace p117 := eq_true p117
        replace q117 := eq_true q117
        cases b with
        | true =>
          go_wp2_with (first
            | ((with_reducible refine gate_dst (N := 5) rfl ?_); refine box_event ?hg (N := 5) ?hd (cs := #[.string ⟨#[]⟩, .int .i64 0]) (t := 44) ?hr ?_; (case hd => rfl); (case hg => rfl); (case hr => first | (go_simp; done) | (go_simp; rfl)); intro gb2 hg w7 hbox hb; have n0_ := Aside0.mk (below_step HB.out hb); have GE2 := Aside0.mk ((by rw [hg]; exact below_size HB.out) : w.heap.size ≤ gb2); clear HB; have HB := n0_; clear n0_ hb hg; have hz0 : w7.cell? ⟨gb2, 0, none⟩ = some (.string ⟨#[]⟩) := (blk_cell hbox 0).trans rfl; have hz1 : w7.cell? ⟨gb2, 1, none⟩ = some (.int .i64 0) := (blk_cell hbox 1).trans rfl; have hf0 := blk_frozen hbox 0; have hf1 := blk_frozen hbox 1; clear hbox)
            | ((with_reducible refine gate_callee (f := 33) rfl ?_); refine goesL_ (some 22) rfl rfl Try.func33 (by kernel_rfl) rfl #[.string ((rd_T44 l0 x).f0)] rfl (by (try simp only [List.map_toArray, List.map_cons, List.map_nil]); first | done | rfl) ?_; (with_reducible refine (token_IsName.calls k ((rd_T44 l0 x).f0) true _ A9.out).mono ?_); rintro e w4 ⟨rfl, hb⟩; refine ⟨_, rfl, ?_⟩; have n0_ := Aside0.mk (below_step (below_set (below_set HB.out GE2.out) GE2.out) hb); clear HB; have HB := n0_; clear n0_ hb))
          go_roundw
          case rel =>
            have hx := HX.out
            have hy := HY.out
            have hl := HL.out
            refine ⟨x + 1, by first | rfl | (rw [show wrap64 (x + 1) = x + 1 by unfold wrap64; omega]), ⟨by omega, by omega⟩, ⟨HN2.out⟩, HB⟩
          case measure =>
            have hx := HX.out
            have hy := HY.out
            have hl := HL.out
            have e : wrap64 (x + 1) = x + 1 := by unfold wrap64; omega
            simp [intOf, e]; omega
        | false =>
          obtain rfl : false = ok := Option.some.inj HN2.out
          have H := H'.out
          simp only [Bool.false_eq_true, if_false, Option.some.injEq, Prod.mk.injEq] at H
          obtain ⟨rfl, rfl⟩ := H
          clear H' HN2
          go_wp2_with (first
            | ((with_reducible refine gate_dst (N := 5) rfl ?_); refine box_event ?hg (N := 5) ?hd (cs := #[.string ⟨#[]⟩, .int .i64 0]) (t := 44) ?hr ?_; (case hd => rfl); (case hg => rfl); (case hr => first | (go_simp; done) | (go_simp; rfl)); intro gb2 hg w7 hbox hb; have n0_ := Aside0.mk (below_step HB.out hb); have GE2 := Aside0.mk ((by rw [hg]; exact below_size HB.out) : w.heap.size ≤ gb2); clear HB; have HB := n0_; clear n0_ hb hg; have hz0 : w7.cell? ⟨gb2, 0, none⟩ = some (.string ⟨#[]⟩) := (blk_cell hbox 0).trans rfl; have hz1 : w7.cell? ⟨gb2, 1, none⟩ = some (.int .i64 0) := (blk_cell hbox 1).trans rfl; have hf0 := blk_frozen hbox 0; have hf1 := blk_frozen hbox 1; clear hbox)
            | ((with_reducible refine gate_callee (f := 33) rfl ?_); refine goesL_ (some 22) rfl rfl Try.func33 (by kernel_rfl) rfl #[.string ((rd_T44 l0 x).f0)] rfl (by (try simp only [List.map_toArray, List.map_cons, List.map_nil]); first | done | rfl) ?_; (with_reducible refine (token_IsName.calls k ((rd_T44 l0 x).f0) false _ A9.out).mono ?_); rintro e w4 ⟨rfl, hb⟩; refine ⟨_, rfl, ?_⟩; have n0_ := Aside0.mk (below_step (below_set (below_set HB.out GE2.out) GE2.out) hb); clear HB; have HB := n0_; clear n0_ hb))
          go_ret2
          exact ⟨_, rfl, (fun h => by cases h), HB.out⟩
      · have c7b0 : decide (x < (l0.length : Int)) = false := decide_eq_false c7
        have hxl : x.toNat = l0.length := by have := HX.out; omega
        obtain rfl : true = ok := by
          have := HN.out
          rw [hxl, List.drop_length] at this
          exact Option.some.inj this
        have HSZ := Aside0.mk (nameAll_true k l0 HOK.out)
        have H2 := Aside0.mk (show (if l0.all (fun e => amt e.f1) = true then (if (addAll l0).all (fun p => amt p.2) = true then some (addAll l0, 0) else some ([], 4)) else some ([], 2)) = some (r1, r2) from H'.out)
        clear hxl c7 HX HN HOK H'
        go_wp2_with (first
          | ((with_reducible refine gate_dst (N := 25) rfl ?_); refine wageMK.make_op _ rfl rfl ?_; intro mb w6 hmb his hb; have HM := Aside0.mk his; have n0_ := Aside0.mk (below_step HB.out hb); have GEM := Aside0.mk ((by rw [hmb]; exact below_size HB.out) : w.heap.size ≤ mb); clear HB; have HB := n0_; clear n0_ hb hmb his))
        go_loopw [28] (fun i wr => ∃ x : Int, i = .int .i64 x ∧ Aside0 (0 ≤ x ∧ x ≤ l0.length) ∧ Aside0 ((l0.take x.toNat).all (fun e => amt e.f1) = true) ∧ Aside0 (wageMK.Is wr mb x.toNat (addAll (l0.take x.toNat))) ∧ Aside0 (Below w.heap.size w wr)) (fun i _ => l0.length - (intOf i).toNat)
        case atStart => exact ⟨0, rfl, ⟨by omega, by omega⟩, ⟨by simp⟩, ⟨by simpa [addAll] using HM.out⟩, HB⟩
        case round =>
          clear HM HB
          obtain ⟨x, rfl, HX, HA, HM, HB⟩ := hrel
          by_cases c7 : x < (l0.length : Int)
          · have c7b0 : decide (x < (l0.length : Int)) = true := decide_eq_true c7
            have p117 : 0 ≤ x := HX.out.1
            have q117 : x < (l0.length : Int) := c7
            have HY := Aside0.mk c7
            have hlt : x.toNat < l0.length := by omega
            have hst := Aside0.mk (addAll_take l0 x.toNat hlt)
            have hta := Aside0.mk (show (l0.take (x.toNat + 1)).all (fun e => amt e.f1) = ((l0.take x.toNat).all (fun e => amt e.f1) && amt (rd_T44 l0 x).f1) by
              rw [List.take_succ_eq_append_getElem hlt, List.all_append]
              simp [rd_T44, List.getD_eq_getElem?_getD, List.getElem?_eq_getElem hlt])
            rw [Int.toNat_of_nonneg HX.out.1] at hst
            have HK := Aside0.mk (show (rd_T44 l0 x).f0.size ≤ maxLen by have := HSZ.out _ (rd_mem l0 x p117 c7); unfold maxLen; omega)
            have HMEM := Aside0.mk (rd_mem l0 x p117 c7)
            clear hlt c7
            obtain ⟨ad117, e117, hx117_0, hx117_1⟩ := at_T44 HR0.out x p117 q117
            cases e117
            replace hx117_0 := pw_cell_below HB.out hx117_0
            replace hx117_1 := pw_cell_below HB.out hx117_1
            replace p117 := eq_true p117
            replace q117 := eq_true q117
            obtain ⟨pj, hpj⟩ : ∃ pj, pj = rd_T44 l0 x := ⟨_, rfl⟩
            rw [← hpj] at hst hx117_0 hx117_1 HK hta HMEM
            clear hpj
            obtain ⟨b, hb⟩ : ∃ b, b = amt pj.f1 := ⟨_, rfl⟩
            have A9 := Aside0.mk (amt_eq pj.f1)
            rw [← hb] at A9 hta
            have HBB := Aside0.mk hb
            clear hb
            cases b with
            | true =>
              go_wp2_with (first
                | ((with_reducible refine gate_dst (N := 8) rfl ?_); refine box_event ?hg (N := 8) ?hd (cs := #[.string ⟨#[]⟩, .int .i64 0]) (t := 44) ?hr ?_; (case hd => rfl); (case hg => rfl); (case hr => first | (go_simp; done) | (go_simp; rfl)); intro gb2 hg w7 hbox hb; have n0_ := Aside0.mk (below_step HB.out hb); have n1_ := Aside0.mk (HM.out.below hb); have GE2 := Aside0.mk ((by rw [hg]; exact below_size HB.out) : w.heap.size ≤ gb2); have NE2 := Aside0.mk ((by rw [hg]; exact Nat.ne_of_lt HM.out.lt) : mb ≠ gb2); clear HB HM; have HB := n0_; have HM := n1_; clear n0_ n1_ hb hg; have hz0 : w7.cell? ⟨gb2, 0, none⟩ = some (.string ⟨#[]⟩) := (blk_cell hbox 0).trans rfl; have hz1 : w7.cell? ⟨gb2, 1, none⟩ = some (.int .i64 0) := (blk_cell hbox 1).trans rfl; have hf0 := blk_frozen hbox 0; have hf1 := blk_frozen hbox 1; clear hbox)
                | ((with_reducible refine gate_callee (f := 44) rfl ?_); refine goesL_ (some 34) rfl rfl Try.func44 (by kernel_rfl) rfl #[.int .i64 pj.f1] rfl (by (try simp only [List.map_toArray, List.map_cons, List.map_nil]); first | done | rfl) ?_; (with_reducible refine (wage_amount.calls pj.f1 true _ A9.out).mono ?_); rintro e w4 ⟨rfl, ⟨nd, rfl⟩⟩; refine ⟨_, rfl, ?_⟩)
                | (at_lookup; refine lookup_si _ Try.underlying9 Try.underlying3 Try.underlying64 rfl _ _ rfl (wageZero _) mb x.toNat (addAll (l0.take x.toNat)) rfl (((HM.out.far NE2.out _).far NE2.out _).drewN _) pj.f0 rfl HK.out ?_; intro hwc)
                | (at_mapUpdate; refine update_si _ Try.underlying9 Try.underlying3 Try.underlying64 rfl _ _ _ rfl mb x.toNat (addAll (l0.take x.toNat)) rfl (((HM.out.far NE2.out _).far NE2.out _).drewN _) (by have := HL.out; have := HX.out; unfold maxLen; omega) pj.f0 _ rfl HK.out rfl (wrap64_wf _) _ (fun y => lookup_putL ltB ⟨pj.f0⟩ _ _ y) ?_; intro w8 his hgr; have n0_ := Aside0.mk (pw_below_grown (by repeat (first | exact HB.out | apply pw_below_drewN | refine below_set ?_ GE2.out)) _ (below_size (by repeat (first | exact HB.out | apply pw_below_drewN | refine below_set ?_ GE2.out))) hgr (fun k e => by cases e; exact GEM.out)); clear HB HM; have HB := n0_; have HM := Aside0.mk his; clear n0_ his hgr))
              go_roundw
              case rel =>
                have hx := HX.out
                have hy := HY.out
                have hl := HL.out
                have e1 : (x + 1).toNat = x.toNat + 1 := by omega
                refine ⟨x + 1, by first | rfl | (rw [show wrap64 (x + 1) = x + 1 by unfold wrap64; omega]), ⟨by omega, by omega⟩, ⟨?_⟩, ⟨?_⟩, HB⟩
                · rw [e1, hta.out, HA.out]; rfl
                · rw [e1, hst.out]
                  exact HM.out
              case measure =>
                have hx := HX.out
                have hy := HY.out
                have hl := HL.out
                have e : wrap64 (x + 1) = x + 1 := by unfold wrap64; omega
                simp [intOf, e]; omega
            | false =>
              have hall : l0.all (fun e => amt e.f1) = false := by
                rw [Bool.eq_false_iff]
                intro hc
                have := List.all_eq_true.1 hc pj HMEM.out
                rw [← HBB.out] at this
                cases this
              have H := H2.out
              rw [hall, if_neg (by simp)] at H
              simp only [Option.some.injEq, Prod.mk.injEq] at H
              obtain ⟨rfl, rfl⟩ := H
              clear H2 hall
              go_wp2_with (first
                | ((with_reducible refine gate_dst (N := 8) rfl ?_); refine box_event ?hg (N := 8) ?hd (cs := #[.string ⟨#[]⟩, .int .i64 0]) (t := 44) ?hr ?_; (case hd => rfl); (case hg => rfl); (case hr => first | (go_simp; done) | (go_simp; rfl)); intro gb2 hg w7 hbox hb; have n0_ := Aside0.mk (below_step HB.out hb); have n1_ := Aside0.mk (HM.out.below hb); have GE2 := Aside0.mk ((by rw [hg]; exact below_size HB.out) : w.heap.size ≤ gb2); have NE2 := Aside0.mk ((by rw [hg]; exact Nat.ne_of_lt HM.out.lt) : mb ≠ gb2); clear HB HM; have HB := n0_; have HM := n1_; clear n0_ n1_ hb hg; have hz0 : w7.cell? ⟨gb2, 0, none⟩ = some (.string ⟨#[]⟩) := (blk_cell hbox 0).trans rfl; have hz1 : w7.cell? ⟨gb2, 1, none⟩ = some (.int .i64 0) := (blk_cell hbox 1).trans rfl; have hf0 := blk_frozen hbox 0; have hf1 := blk_frozen hbox 1; clear hbox)
                | ((with_reducible refine gate_callee (f := 44) rfl ?_); refine goesL_ (some 34) rfl rfl Try.func44 (by kernel_rfl) rfl #[.int .i64 pj.f1] rfl (by (try simp only [List.map_toArray, List.map_cons, List.map_nil]); first | done | rfl) ?_; (with_reducible refine (wage_amount.calls pj.f1 false _ A9.out).mono ?_); rintro e w4 ⟨rfl, ⟨nd, rfl⟩⟩; refine ⟨_, rfl, ?_⟩))
              go_ret2
              exact ⟨_, rfl, (fun h => by cases h), (by repeat (first | exact HB.out | apply pw_below_drewN | refine below_set ?_ GE2.out))⟩
          · have c7b0 : decide (x < (l0.length : Int)) = false := decide_eq_false c7
            have hxl : x.toNat = l0.length := by have := HX.out; omega
            rw [hxl, List.take_length] at HM
            rw [hxl, List.take_length] at HA
            have H3 := Aside0.mk (show (if (addAll l0).all (fun p => amt p.2) = true then some (addAll l0, 0) else some ([], 4)) = some (r1, r2) by have := H2.out; rw [HA.out, if_pos rfl] at this; exact this)
            clear hxl c7 HX HA H2 HSZ
            go_wp2_with (first
              | (at_range; refine wageMK.range_op _ rfl _ rfl mb l0.length (addAll l0) rfl HM.out ?_; intro rb w9 hrb hr hgr; have HR := Aside0.mk hr; have GER := Aside0.mk ((by rw [hrb]; exact below_size HB.out) : w.heap.size ≤ rb); have n0_ := Aside0.mk (pw_below_grown HB.out none (below_size HB.out) hgr (by simp)); clear HB HM; have HB := n0_; clear n0_ hr hgr hrb))
            go_frame
            go_loopw [] (fun wr => ∃ done : List (Str × Int), Aside0 (wageMK.Ranges wr mb rb l0.length (addAll l0) done) ∧ Aside0 (∀ p ∈ done, amt p.2 = true) ∧ Aside0 (Below w.heap.size w wr)) (fun wr => wr.rangeLeft mb rb)
            case atStart => exact ⟨[], HR, ⟨by simp⟩, HB⟩
            case round =>
              clear HR HB
              obtain ⟨done, HR, HD, HB⟩ := hrel
              go_wp2_with (first
                | (at_next; refine next_si _ Try.underlying9 Try.underlying3 Try.underlying64 rfl _ rfl mb rb l0.length (addAll l0) done rfl HR.out ?_ ?_))
              · intro hall
                have hnd : (done.map (·.1)).Nodup := by
                  obtain ⟨_, _, _, _, _, _, _, hn⟩ := HR.out
                  exact hn
                have hperm := perm_of_lookup hnd ((addAll_asc l0).nodup orderB) hall
                have hany : (addAll l0).all (fun p => amt p.2) = true := by
                  rw [List.all_eq_true]
                  intro p hp
                  exact HD.out p (hperm.mem_iff.2 hp)
                have H := H3.out
                rw [hany, if_pos rfl] at H
                simp only [Option.some.injEq, Prod.mk.injEq] at H
                obtain ⟨rfl, rfl⟩ := H
                clear hall hnd hperm hany HD H3
                go_wp2
                go_ret2
                exact ⟨_, rfl, ⟨mb, rfl, GEM.out, HR.out.is.mono HL.out⟩, HB.out⟩
              · intro x c w1 hwx hwc hmx hdx hr hlt hg hsz hen
                have HR2 := Aside0.mk hr
                have HLT := Aside0.mk hlt
                have HMX := Aside0.mk (mem_of_lookup hmx)
                have n0_ := Aside0.mk (pw_below_grown HB.out _ (below_size HB.out) hg (fun k e => by cases e; exact GER.out))
                clear HB; have HB := n0_
                clear n0_ hmx hdx hr hlt hg hsz hwx hwc HR
                obtain ⟨b, hb⟩ : ∃ b, b = amt c := ⟨_, rfl⟩
                have A9 := Aside0.mk (amt_eq c)
                rw [← hb] at A9
                have HBB := Aside0.mk hb
                clear hb
                cases b with
                | true =>
                  go_wp2_with (first
                    | ((with_reducible refine gate_callee (f := 44) rfl ?_); refine goesL_ (some 51) rfl rfl Try.func44 (by kernel_rfl) rfl #[.int .i64 c] rfl (by (try simp only [List.map_toArray, List.map_cons, List.map_nil]); first | done | rfl) ?_; (with_reducible refine (wage_amount.calls c true _ A9.out).mono ?_); rintro e w4 ⟨rfl, ⟨nd, rfl⟩⟩; refine ⟨_, rfl, ?_⟩))
                  go_roundw
                  case rel => exact ⟨done ++ [(x, c)], ⟨HR2.out.drewN _⟩, ⟨fun p hp => (List.mem_append.1 hp).elim (fun hp => HD.out p hp) (fun hp => by rw [List.mem_singleton] at hp; subst hp; exact HBB.out.symm)⟩, ⟨by repeat (first | exact HB.out | apply pw_below_drewN)⟩⟩
                  case measure => exact HLT.out
                | false =>
                  have hany : (addAll l0).all (fun p => amt p.2) = false := by
                    rw [Bool.eq_false_iff]
                    intro hc
                    have := List.all_eq_true.1 hc _ HMX.out
                    rw [← HBB.out] at this
                    cases this
                  have H := H3.out
                  rw [hany, if_neg (by simp)] at H
                  simp only [Option.some.injEq, Prod.mk.injEq] at H
                  obtain ⟨rfl, rfl⟩ := H
                  clear hany H3
                  go_wp2_with (first
                    | ((with_reducible refine gate_callee (f := 44) rfl ?_); refine goesL_ (some 51) rfl rfl Try.func44 (by kernel_rfl) rfl #[.int .i64 c] rfl (by (try simp only [List.map_toArray, List.map_cons, List.map_nil]); first | done | rfl) ?_; (with_reducible refine (wage_amount.calls c false _ A9.out).mono ?_); rintro e w4 ⟨rfl, ⟨nd, rfl⟩⟩; refine ⟨_, rfl, ?_⟩))
                  go_ret2
                  exact ⟨_, rfl, (fun h => by cases h), by repeat (first | exact HB.out | apply pw_below_drewN)⟩
end SumsExt
section ElementsExt
open Go.Proofs.Ytbmcddmhfnnccaa.MapKit Go.Proofs.Ytbmcddmhfnnccaa.ListKit Go.Proofs.Ytbmcddmhfnnccaa.SortKit
def toE (p : Str × Int) : S44 := ⟨p.1.s, p.2⟩
/-- The sums that are not 0. -/
def elts (m : List (Str × Int)) : List S44 := (m.filter fun p => decide (p.2 ≠ 0)).map toE
def elemEnc (x : S44) : List Value := [.string x.f0, .int .i64 x.f1]
theorem elemFlat : Flat k44 elemEnc := ⟨fun _ => rfl, fun x v h => by simp [elemEnc] at h; rcases h with rfl | rfl <;> rfl, fun w base ok x => k44_mkM w base ok x, fun w base ok x cs h => k44_openM h⟩
def elemCmp (x y : S44) : Int := if Op.bytesLess x.f0.toList y.f0.toList = true then -1 else 1
theorem elem_cmp (x y : S44) (W : World) : Calls Try.prog 53 #[.agg #[.string x.f0, .int .i64 x.f1], .agg #[.string y.f0, .int .i64 y.f1]] W fun e w' => e = .returned (.int .i64 (elemCmp x y)) ∧ ∃ q os', w' = Sort.grow (W.drewN q) os' := by
  unfold elemCmp
  by_cases h : Op.bytesLess x.f0.toList y.f0.toList = true
  · rw [if_pos h]
    go_enter Try.func53, Try.ntmps53
    go_wp2
    repeat (go_quiet (fail); try go_wp2)
    go_ret
    first
    | exact ⟨rfl, 0, _, by rw [Sort.alloc_eq_grow, Sort.alloc_eq_grow, Sort.grow_grow]; rfl⟩
    | exact ⟨rfl, _, _, by rw [Sort.alloc_eq_grow, Sort.alloc_eq_grow, Sort.grow_grow]; rfl⟩
  · have h' : Op.bytesLess x.f0.toList y.f0.toList = false := by simpa using h
    rw [if_neg h]
    clear h
    go_enter Try.func53, Try.ntmps53
    go_wp2
    repeat (go_quiet (fail); try go_wp2)
    go_ret
    first
    | exact ⟨rfl, 0, _, by rw [Sort.alloc_eq_grow, Sort.alloc_eq_grow, Sort.grow_grow]; rfl⟩
    | exact ⟨rfl, _, _, by rw [Sort.alloc_eq_grow, Sort.alloc_eq_grow, Sort.grow_grow]; rfl⟩
theorem elemCmp_neg (x y : S44) : elemCmp x y < 0 ↔ ltB ⟨x.f0⟩ ⟨y.f0⟩ = true := by
  unfold elemCmp ltB
  by_cases h : Op.bytesLess x.f0.toList y.f0.toList = true
  · rw [if_pos h]; simp [h]
  · rw [if_neg h]; simp [h]
theorem ltB_ntr {x y z : Str} (h : ¬ ltB x y = true) (h2 : ¬ ltB y z = true) : ¬ ltB x z = true := by
  intro h3
  by_cases e : y = z
  · subst e; exact h h3
  · have := orderB.total y z (by simpa using h2) e
    exact h (orderB.trans _ _ _ h3 this)
theorem elts_snoc (m : List (Str × Int)) (p : Str × Int) : elts (m ++ [p]) = elts m ++ (if p.2 = 0 then [] else [toE p]) := by
  unfold elts
  rw [List.filter_append, List.map_append]
  by_cases h : p.2 = 0 <;> simp [h]
set_option maxHeartbeats 8000000 in
set_option maxRecDepth 100000 in
theorem wage_elements.calls (m : List (Str × Int)) (n mb : Nat) (w : World) (his : wageMK.Is w mb n m) (hasc : Asc ltB m) (hlen : m.length ≤ 4096) :
    Calls Try.prog 36 #[.map (some mb)] w fun e w' => ∃ v0_ : Value, e = .returned v0_ ∧ Kd.R k44 44 w' w.heap.size (fun _ => True) v0_ (elts m) ∧ Below w.heap.size w w' := by
  have hu44 := Try.underlying44
  have HM := Aside0.mk his
  have HA := Aside0.mk hasc
  have HL := Aside0.mk hlen
  clear his hasc hlen
  have HB := Aside0.mk (Below.refl w.heap.size w)
  go_enter Try.func36, Try.ntmps36
  go_wp2_with (first
    | (at_range; refine wageMK.range_op _ rfl _ rfl mb n m rfl HM.out ?_; intro rb w9 hrb hr hgr; have HR := Aside0.mk hr; have GER := Aside0.mk ((by rw [hrb]; exact below_size HB.out) : w.heap.size ≤ rb); have n0_ := Aside0.mk (pw_below_grown HB.out none (below_size HB.out) hgr (by simp)); clear HB HM; have HB := n0_; clear n0_ hr hgr hrb))
  go_frame
  go_loopw [3] (fun v wr => ∃ done : List (Str × Int), Aside0 (wageMK.Ranges wr mb rb n m done) ∧ Aside0 (Kd.R k44 44 wr w.heap.size (fun _ => True) v (elts done)) ∧ Aside0 (Below w.heap.size w wr)) (fun _ wr => wr.rangeLeft mb rb)
  case atStart => exact ⟨[], HR, ⟨Kd.R_nil _ _ _ _ _⟩, HB⟩
  case round =>
    clear HR HB
    obtain ⟨done, HR, HO, HB⟩ := hrel
    go_wp2_with (first
      | (at_next; refine next_si _ Try.underlying9 Try.underlying3 Try.underlying64 rfl _ rfl mb rb n m done rfl HR.out ?_ ?_))
    · intro hall
      have hnd : (done.map (·.1)).Nodup := by
        obtain ⟨_, _, _, _, _, _, _, hn⟩ := HR.out
        exact hn
      have hperm := perm_of_lookup hnd (HA.out.nodup orderB) hall
      have hpe : (elts done).Perm (elts m) := (hperm.filter _).map _
      have hlen : (elts done).length < 4611686018427387904 := by
        have h1 : (elts done).length ≤ done.length := by unfold elts; rw [List.length_map]; exact List.length_filter_le _ _
        have h2 := hperm.length_eq
        have h3 := HL.out
        omega
      have HP := Aside0.mk hpe
      have HLEN := Aside0.mk hlen
      clear hall hnd hperm hpe hlen HR
      have hag : ∀ w, (isAgg (Try.sortElement_ren.t 24)).run Try.prog w = .ok true w := fun w => by kernel_rfl
      have hsz : ∀ w, (Go.sizeOf (Try.sortElement_ren.t 24)).run Try.prog w = .ok k44.sz w := fun w => by kernel_rfl
      have HS := Aside0.mk (fun W (hR : Kd.R k44 44 W w.heap.size (fun _ => True) u3 (elts done)) => sorts Try.sortElement elemFlat hag hsz (fun _ => True) elemCmp 53 (enters_of Try.func53 (by kernel_rfl) rfl) (fun x y _ _ W => elem_cmp x y W) (fun x _ => by rw [elemCmp_neg]; simpa using orderB.irrefl _) (fun x y z _ _ _ h h2 => by rw [elemCmp_neg] at *; exact orderB.trans _ _ _ h h2) (fun x y z _ _ _ h h2 => by rw [elemCmp_neg] at *; exact ltB_ntr h h2) (fun _ _ => trivial) W HLEN.out hR)
      clear hag hsz
      go_wp2_with (first
        | ((with_reducible refine gate_callee (f := 52) rfl ?_); refine goesL_ (some 22) rfl rfl Try.func52 (by kernel_rfl) rfl #[u3, .func (.func 53) #[] #[]] rfl (by (try simp only [List.map_toArray, List.map_cons, List.map_nil]); first | done | rfl) ?_; refine (HS.out _ HO.out).mono ?_; rintro e w10 ⟨rfl, ys, hyp, hys, hR, hg⟩; refine ⟨_, rfl, ?_⟩; have HR2 := Aside0.mk hR; have HYP := Aside0.mk hyp; have HYS := Aside0.mk hys; have n0_ := Aside0.mk (pw_below_grown HB.out _ (below_size HB.out) hg (Kd.R_base HO.out)); clear HB HO; have HB := n0_; clear n0_ hR hyp hys hg))
      go_ret
      have hys : ys = elts m := by
        have h1 : (ys.map fun p => ((⟨p.f0⟩ : Str), p.f1)) = (m.filter fun p => decide (p.2 ≠ 0)) := by
          refine perm_asc_eq orderB ?_ ?_ ?_
          · have := (HYP.out.trans HP.out).map (fun p : S44 => ((⟨p.f0⟩ : Str), p.f1))
            refine this.trans ?_
            unfold elts
            rw [List.map_map]
            have : ((fun p : S44 => ((⟨p.f0⟩ : Str), p.f1)) ∘ toE) = id := rfl
            rw [this, List.map_id]
          · have hw : (ys.map fun p => ((⟨p.f0⟩ : Str), p.f1)).Pairwise (fun p q => ¬ ltB q.1 p.1 = true) := by
              rw [List.pairwise_map]
              exact HYS.out.imp fun {p q} h => by rw [← elemCmp_neg]; exact Int.not_lt.2 (by omega)
            exact hw
          · exact List.Pairwise.sublist List.filter_sublist HA.out
        unfold elts
        rw [← h1, List.map_map]
        have : (toE ∘ fun p : S44 => ((⟨p.f0⟩ : Str), p.f1)) = id := rfl
        rw [this, List.map_id]
      rw [← hys]
      exact ⟨_, rfl, HR2.out, HB.out⟩
    · intro x c w1 hwx hwc hmx hdx hr hlt hg hsz hen
      have HR2 := Aside0.mk hr
      have HLT := Aside0.mk hlt
      have hne := HR.out.row_ne (Kd.R_own HO.out).choose_spec
      have HO2 := Aside0.mk (elemFlat.kept HO.out hg (fun k hk e => hne.2 (hk.trans e).symm))
      have n0_ := Aside0.mk (pw_below_grown HB.out _ (below_size HB.out) hg (fun k e => by cases e; exact GER.out))
      clear HB; have HB := n0_
      have HLN := Aside0.mk (show (elts done).length ≤ 4096 by
        have hnd : (done.map (·.1)).Nodup := by
          obtain ⟨_, _, _, _, _, _, _, hn⟩ := HR.out
          exact hn
        have hsub : (done.map (·.1)).length ≤ (m.map (·.1)).length := by
          refine List.Nodup.length_le_of_subset hnd fun y hy => ?_
          obtain ⟨_, _, _, _, _, _, hd, _⟩ := HR.out
          obtain ⟨q, hq, rfl⟩ := List.mem_map.1 hy
          exact List.mem_map.2 ⟨q, mem_of_lookup (hd q.1 q.2 hq).1, rfl⟩
        have h1 : (elts done).length ≤ done.length := by unfold elts; rw [List.length_map]; exact List.length_filter_le _ _
        have h3 := HL.out
        simp only [List.length_map] at hsub
        omega)
      clear n0_ hmx hdx hr hlt hg hsz hwx hwc hne HR HO
      by_cases hc : c = 0
      · have hc0 : (c != 0) = false := bne_eq_false_iff_eq.mpr hc
        have HC := Aside0.mk hc
        clear hc
        go_wp2
        go_roundw
        case rel => exact ⟨done ++ [(x, c)], HR2, ⟨by rw [elts_snoc, if_pos HC.out, List.append_nil]; exact HO2.out⟩, HB⟩
        case measure => exact HLT.out
      · have hc0 : (c != 0) = true := bne_iff_ne.mpr hc
        have HC := Aside0.mk hc
        clear hc
        have HNE := Aside0.mk (HR2.out.row_ne (Kd.R_own HO2.out).choose_spec)
        go_wp2_with (first
          | ((with_reducible refine gate_builtin (b := .append) (xs := #[.tmp 15, .tmp 19]) rfl ?_); at_builtin; refine Kd.R_append k44 (w0 := w) w.heap.size rfl (.tmp 15) (.tmp 19) 38 44 (.agg #[(.string ⟨#[]⟩), (.int .i64 0)]) 24 rfl Try.underlying38 info44 rfl (by decide) (by omega) u3 (elts done) (⟨x.s, c⟩ : S44) [.string x.s, .int .i64 c] (fun _ => True) (fun _ => False) rfl rfl ?aP (fun _ hk => hk.elim) ?aF HO2.out HB.out (below_size HB.out) ?aL ?_; (case aP => exact k44_mkM _ _ _ (⟨x.s, c⟩ : S44)); (case aF => exact (fun _ _ => trivial)); (case aL => have := HLN.out; omega); intro v1 w2 hO hB hg _; have HO3 := Aside0.mk hO; have HR3 := Aside0.mk (HR2.out.kept hg HNE.out.1 HNE.out.2); clear HB; have HB := Aside0.mk hB; clear hO hB hg))
        go_roundw
        case rel => exact ⟨done ++ [(x, c)], ⟨HR3.out.1⟩, ⟨by rw [elts_snoc, if_neg HC.out]; exact HO3.out⟩, HB⟩
        case measure => rw [HR3.out.2]; exact HLT.out
end ElementsExt
section MergeExt
open Go.Proofs.Ytbmcddmhfnnccaa.MapKit Go.Proofs.Ytbmcddmhfnnccaa.ListKit
def wage_Merge.f (k : Nat) (l0 : List S44) : Option (List S44 × Int) := (wage_sums.f k l0).bind fun b => if b.2 = 0 then some (elts b.1, 0) else some ([], b.2)
theorem wage_Merge.mono : ∀ a0 k, LeO (wage_Merge.f k a0) (wage_Merge.f (k + 1) a0) := by
  intro a0 k
  unfold wage_Merge.f
  exact LeO.bind (wage_sums.mono _ _) fun _ => LeO.refl _
theorem putB_len (x : Str) (v : Int) (m : List (Str × Int)) : (putL ltB x v m).length ≤ m.length + 1 := by
  induction m with
  | nil => simp [putL]
  | cons p r ih =>
    obtain ⟨a, b⟩ := p
    unfold putL
    split
    · simp
    · split
      · simp
      · simp only [List.length_cons]; omega
theorem addAll_len (l : List S44) : (addAll l).length ≤ l.length := by
  have : ∀ (l : List S44) (m : List (Str × Int)), (l.foldl addE m).length ≤ m.length + l.length := by
    intro l
    induction l with
    | nil => intro m; simp
    | cons p r ih =>
      intro m
      have h1 := ih (addE m p)
      have h2 := putB_len ⟨p.f0⟩ (wrap64 ((m.lookup ⟨p.f0⟩).getD 0 + p.f1)) m
      simp only [List.foldl_cons, List.length_cons]
      unfold addE at h1 ⊢
      omega
  simpa [addAll] using this l []
theorem sums_ok (k : Nat) (l : List S44) (m : List (Str × Int)) (h : wage_sums.f k l = some (m, 0)) : m = addAll l ∧ l.length ≤ 128 := by
  unfold wage_sums.f at h
  by_cases c1 : (l.length : Int) > 128
  · rw [if_pos c1] at h; simp at h
  rw [if_neg c1] at h
  obtain ⟨ok, _, h⟩ := Option.bind_eq_some_iff.1 h
  by_cases c2 : ok = true
  · rw [if_pos c2] at h
    by_cases c3 : l.all (fun e => amt e.f1) = true
    · rw [if_pos c3] at h
      by_cases c4 : (addAll l).all (fun p => amt p.2) = true
      · rw [if_pos c4] at h
        simp only [Option.some.injEq, Prod.mk.injEq] at h
        exact ⟨h.1.symm, by omega⟩
      · rw [if_neg c4] at h; simp at h
    · rw [if_neg c3] at h; simp at h
  · rw [if_neg c2] at h; simp at h
set_option maxHeartbeats 8000000 in
set_option maxRecDepth 100000 in
theorem wage_Merge.calls (k : Nat) (A0 : Option Addr) (c0 : Nat) (l0 : List S44) (r1 : List S44) (r2 : Int) (w : World) (hr0 : Kd.C k44 w A0 l0.length l0) (hc0 : l0.length ≤ c0) (h : wage_Merge.f k l0 = some (r1, r2)) :
    Calls Try.prog 24 #[.slice A0 l0.length c0] w fun e w' => ∃ v0_ : Value, e = .returned (.tuple #[v0_, .int .i64 r2]) ∧ Kd.R k44 44 w' w.heap.size (fun _ => True) v0_ r1 ∧ Below w.heap.size w w' := by
  have HR0 := Aside0.mk hr0
  have HC0 := Aside0.mk hc0
  clear hr0 hc0
  have HB := Aside0.mk (Below.refl w.heap.size w)
  unfold wage_Merge.f at h
  obtain ⟨⟨m, t⟩, A20, H⟩ := Option.bind_eq_some_iff.1 h
  replace H : (if t = 0 then some (elts m, 0) else some ([], t)) = some (r1, r2) := H
  have A2 := Aside0.mk A20
  clear h A20
  by_cases c3 : t = 0
  · rw [if_pos c3] at H
    subst c3
    simp only [Option.some.injEq, Prod.mk.injEq] at H
    obtain ⟨rfl, rfl⟩ := H
    have V := Aside0.mk (sums_ok k l0 m A2.out)
    have VA := Aside0.mk (show Asc ltB m by rw [V.out.1]; exact addAll_asc l0)
    have VL := Aside0.mk (show m.length ≤ 4096 by rw [V.out.1]; have := addAll_len l0; have := V.out.2; omega)
    go_enter Try.func24, Try.ntmps24
    go_wp2_with (first
      | ((with_reducible refine gate_callee (f := 35) rfl ?_); refine goesL_ (some 8) rfl rfl Try.func35 (by kernel_rfl) rfl #[.slice A0 l0.length c0] rfl (by (try simp only [List.map_toArray, List.map_cons, List.map_nil]); first | done | rfl) ?_; (with_reducible refine (wage_sums.calls k _ _ l0 m 0 _ ?side1 ?side2 A2.out).mono ?_); (case side1 => exact HR0.out); (case side2 => exact HC0.out); rintro e w4 ⟨v, rfl, hm, hb⟩; obtain ⟨mb, rfl, hmb, hM⟩ := hm rfl; refine ⟨_, rfl, ?_⟩; have HM := Aside0.mk hM; have GEM := Aside0.mk hmb; have n0_ := Aside0.mk (below_step HB.out hb); clear HB; have HB := n0_; clear n0_ hb hM hmb))
    refine (wage_elements.calls m 128 mb _ HM.out VA.out VL.out).mono ?_
    rintro e w5 ⟨v, rfl, hR, hb⟩
    have HO := Aside0.mk (Kd.R_lower hR (below_size HB.out))
    have n0_ := Aside0.mk (below_step HB.out hb)
    clear HB; have HB := n0_; clear n0_ hb hR
    go_wp2
    go_ret2
    exact ⟨_, rfl, HO.out, HB.out⟩
  · rw [if_neg c3] at H
    have c3b0 : (t == 0) = false := beq_eq_false_iff_ne.mpr c3
    have c3b1 : (t != 0) = true := bne_iff_ne.mpr c3
    simp only [Option.some.injEq, Prod.mk.injEq] at H
    obtain ⟨rfl, rfl⟩ := H
    clear c3
    go_enter Try.func24, Try.ntmps24
    go_wp2_with (first
      | ((with_reducible refine gate_callee (f := 35) rfl ?_); refine goesL_ (some 8) rfl rfl Try.func35 (by kernel_rfl) rfl #[.slice A0 l0.length c0] rfl (by (try simp only [List.map_toArray, List.map_cons, List.map_nil]); first | done | rfl) ?_; (with_reducible refine (wage_sums.calls k _ _ l0 m t _ ?side1 ?side2 A2.out).mono ?_); (case side1 => exact HR0.out); (case side2 => exact HC0.out); rintro e w4 ⟨v, rfl, hm, hb⟩; refine ⟨_, rfl, ?_⟩; have n0_ := Aside0.mk (below_step HB.out hb); clear HB; have HB := n0_; clear n0_ hb hm))
    go_ret2
    exact ⟨_, by first | rfl | (simp [*] <;> rfl), Kd.R_nil _ _ _ _ _, HB.out⟩
end MergeExt

/-! ### wage_Find: function 17 -/
def wage_Find.l0 : Nat → ByteArray → List (S31) → Int → Int → Option (ByteArray × Int × Bool × Bool × Bool × Int × Bool)
  | 0, _, _, _, _ => none
  | k + 1, x1, x8, x9, x10 => if x10 < x9 then (if 0 ≤ x10 then (if x10 < (x8.length : Int) then (if ((rd_T31 x8 x10).f0).toList = x1.toList then (some ((rd_T31 x8 x10).f0, (rd_T31 x8 x10).f1, (rd_T31 x8 x10).f2, (rd_T31 x8 x10).f3, (rd_T31 x8 x10).f4, (rd_T31 x8 x10).f5, true)) else (wage_Find.l0 k x1 x8 x9 (wrap64 (x10 + 1)))) else (none)) else (none)) else (some ((⟨#[]⟩ : ByteArray), 0, false, false, false, 0, false))
def wage_Find.f (k : Nat) (l0 : List (S31)) (a1 : ByteArray) : Option (ByteArray × Int × Bool × Bool × Bool × Int × Bool) := wage_Find.l0 k a1 l0 (l0.length : Int) 0
theorem wage_Find.mono_l : ∀ k, (∀ y0 y1 y2 y3, LeO (wage_Find.l0 k y0 y1 y2 y3) (wage_Find.l0 (k + 1) y0 y1 y2 y3))
  | 0 => fun _ _ _ _ r h => by simp [wage_Find.l0] at h
  | k + 1 => by
    have ih0 := wage_Find.mono_l k
    · intro y0 y1 y2 y3
      unfold wage_Find.l0
      repeat' first
      | (with_reducible exact ih0 _ _ _ _)
      | (with_reducible exact LeO.refl _)
      | (with_reducible exact LeO.none _)
      | (with_reducible refine LeO.ite ?_ ?_)
      | (with_reducible refine LeO.bind ?_ (fun _ => ?_))
      | exact ih0 _ _ _ _
      | exact LeO.none _
      | refine LeO.ite ?_ ?_
      | refine LeO.bind ?_ (fun _ => ?_)
theorem wage_Find.mono : ∀ a0 a1 k, LeO (wage_Find.f k a0 a1) (wage_Find.f (k + 1) a0 a1) := by
  intro a0 a1 k
  have ih0 := wage_Find.mono_l k
  unfold wage_Find.f
  repeat' first
      | (with_reducible exact ih0 _ _ _ _)
      | (with_reducible exact LeO.refl _)
      | (with_reducible exact LeO.none _)
      | (with_reducible refine LeO.ite ?_ ?_)
      | (with_reducible refine LeO.bind ?_ (fun _ => ?_))
      | exact ih0 _ _ _ _
      | exact LeO.none _
      | refine LeO.ite ?_ ?_
      | refine LeO.bind ?_ (fun _ => ?_)
set_option maxHeartbeats 8000000 in
set_option maxRecDepth 100000 in
theorem wage_Find.calls (k : Nat) (A0 : Option Addr) (c0 : Nat) (l0 : List (S31)) (a1 : ByteArray) (r1 : ByteArray) (r2 : Int) (r3 : Bool) (r4 : Bool) (r5 : Bool) (r6 : Int) (r7 : Bool) (w : World) (hr0 : Kd.C k31 w A0 l0.length l0) (hc0 : l0.length ≤ c0) (h : wage_Find.f k l0 a1 = some (r1, r2, r3, r4, r5, r6, r7)) :
    Calls Try.prog 17 #[.slice A0 l0.length c0, .string a1] w fun e w' => e = .returned (.tuple #[.agg #[.string r1, .int .i64 r2, .bool r3, .bool r4, .bool r5, .int .i64 r6], .bool r7]) ∧ Below w.heap.size w w' := by
  have hu31 := Try.underlying31
  have HR0 := Aside0.mk hr0
  have HC0 := Aside0.mk hc0
  clear hr0 hc0
  have HB := Aside0.mk (Below.refl w.heap.size w)
  have H : (wage_Find.l0 k a1 l0 (l0.length : Int) 0) = some (r1, r2, r3, r4, r5, r6, r7) := h
  clear h
  have H' := Aside0.mk H
  clear H
  go_enter Try.func17, Try.ntmps17
  go_wp2_with (first | ((with_reducible refine gate_dst (N := 4) rfl ?_); refine box_event ?hg (N := 4) ?hd (cs := #[.string (⟨#[]⟩ : ByteArray), .int .i64 0, .bool false, .bool false, .bool false, .int .i64 0]) (t := 31) ?hr ?_; (case hd => rfl); (case hg => rfl); (case hr => first | (go_simp; done) | (go_simp; rfl)); intro gb110 hg w3 hbox hb; have n0_ := Aside0.mk (below_step (by repeat (first | (with_reducible first | exact HB.out | apply below_alloc | apply pw_below_drewN | apply below_drew1) | exact HB.out)) hb); have n1_ := Aside0.mk (hbox); have n2_ := Aside0.mk ((by rw [hg]; exact (below_size (by repeat (first | (with_reducible first | exact HB.out | apply below_alloc | apply pw_below_drewN | apply below_drew1) | exact HB.out))) : w.heap.size ≤ gb110)); have n3_ := Aside0.mk ((by rw [hg]; exact (below_size (by repeat (first | (with_reducible first | exact HB.out | apply below_alloc | apply pw_below_drewN | apply below_drew1) | exact HB.out))) : w.heap.size ≤ gb110)); clear HB; have HB := n0_; have BK110 := n1_; have GW110 := n2_; have GE110 := n3_; clear n0_ n1_ n2_ n3_; clear hb hbox hg))
  go_loopg [10] k (fun kq v10 w' => ∃ (x10_1 : Int) (x111000_1 : ByteArray) (x111001_1 : Int) (x111002_1 : Bool) (x111003_1 : Bool) (x111004_1 : Bool) (x111005_1 : Int), v10 = .int .i64 x10_1 ∧ Aside0 (wage_Find.l0 kq a1 l0 (l0.length : Int) x10_1 = some (r1, r2, r3, r4, r5, r6, r7)) ∧ Aside0 (kq ≤ k) ∧ Aside0 (w'.heap[gb110]? = some (.cells #[.string x111000_1, .int .i64 x111001_1, .bool x111002_1, .bool x111003_1, .bool x111004_1, .int .i64 x111005_1] 31 (0, 0))) ∧ Aside0 (Below w.heap.size w w'))
  case atStart => exact ⟨(0), ((⟨#[]⟩ : ByteArray)), (0), (false), (false), (false), (0), (by first | rfl | (simp; done) | (simp [*]; done)), H', ⟨Nat.le_refl _⟩, ⟨by (with_reducible repeat (first | refine blk_drewN ?_ _ | refine blk_drew ?_ | refine blk_alloc ?_ _)); exact BK110.out⟩, ⟨by repeat (first | (with_reducible first | exact HB.out | apply below_alloc | apply pw_below_drewN | apply below_drew1 | refine below_set ?_ GE110.out) | exact HB.out)⟩⟩
  case round =>
    clear H'
    try clear c1
    try clear p2
    obtain ⟨x10_1, x111000_1, x111001_1, x111002_1, x111003_1, x111004_1, x111005_1, rfl, HA, HK1, BK110, HB⟩ := hrel
    cases gk with
    | zero => exact absurd HA.out (by simp [wage_Find.l0])
    | succ k1 =>
      have H := HA.out
      clear HA
      simp only [wage_Find.l0] at H
      by_cases c4 : x10_1 < (l0.length : Int)
      · rw [if_pos c4] at H
        have c4b0 : decide (x10_1 < (l0.length : Int)) = true := decide_eq_true c4
        clear c4
        by_cases c5 : 0 ≤ x10_1
        · rw [if_pos c5] at H
          have c5b0 : decide (0 ≤ x10_1) = true := decide_eq_true c5
          clear c5
          by_cases c6 : x10_1 < (l0.length : Int)
          · rw [if_pos c6] at H
            have c6b0 : decide (x10_1 < (l0.length : Int)) = true := decide_eq_true c6
            clear c6
            by_cases c7 : ((rd_T31 l0 x10_1).f0).toList = a1.toList
            · rw [if_pos c7] at H
              have c7b0 : (((rd_T31 l0 x10_1).f0).toList == a1.toList) = true := beq_iff_eq.mpr c7
              have c7b1 : (((rd_T31 l0 x10_1).f0).toList != a1.toList) = false := bne_eq_false_iff_eq.mpr c7
              clear c7
              simp only [Option.some.injEq, Prod.mk.injEq] at H
              obtain ⟨rfl, rfl, rfl, rfl, rfl, rfl, rfl⟩ := H
              have p111 : 0 ≤ (x10_1 : Int) := of_decide_eq_true (by first | (with_reducible assumption) | assumption)
              have q111 : x10_1 < (l0.length : Int) := of_decide_eq_true (by first | (with_reducible assumption) | assumption)
              obtain ⟨ad111, e111, hx111_0, hx111_1, hx111_2, hx111_3, hx111_4, hx111_5⟩ := at_T31 HR0.out x10_1 p111 q111
              cases e111
              replace hx111_0 := (HB.out.cell (World.block_lt_of_cell? w _ hx111_0)).trans hx111_0
              replace hx111_1 := (HB.out.cell (World.block_lt_of_cell? w _ hx111_1)).trans hx111_1
              replace hx111_2 := (HB.out.cell (World.block_lt_of_cell? w _ hx111_2)).trans hx111_2
              replace hx111_3 := (HB.out.cell (World.block_lt_of_cell? w _ hx111_3)).trans hx111_3
              replace hx111_4 := (HB.out.cell (World.block_lt_of_cell? w _ hx111_4)).trans hx111_4
              replace hx111_5 := (HB.out.cell (World.block_lt_of_cell? w _ hx111_5)).trans hx111_5
              replace p111 := eq_true p111
              replace q111 := eq_true q111
              go_wp2_with (first | ((with_reducible refine gate_dst (N := 7) rfl ?_); refine box_event ?hg (N := 7) ?hd (cs := #[.string (⟨#[]⟩ : ByteArray), .int .i64 0, .bool false, .bool false, .bool false, .int .i64 0]) (t := 31) ?hr ?_; (case hd => rfl); (case hg => rfl); (case hr => first | (go_simp; done) | (go_simp; rfl)); intro gb112 hg w8 hbox hb; have n0_ := Aside0.mk (blk_below (g := gb110) (o := .cells #[.string x111000_1, .int .i64 x111001_1, .bool x111002_1, .bool x111003_1, .bool x111004_1, .int .i64 x111005_1] 31 (0, 0)) (by (with_reducible repeat (first | refine blk_drewN ?_ _ | refine blk_drew ?_ | refine blk_alloc ?_ _)); exact BK110.out) hb); have n1_ := Aside0.mk (below_step (by repeat (first | (with_reducible first | exact HB.out | apply below_alloc | apply pw_below_drewN | apply below_drew1 | refine below_set ?_ GE110.out) | exact HB.out)) hb); have n2_ := Aside0.mk (hbox); have n3_ := Aside0.mk ((by rw [hg]; exact (below_size (by repeat (first | (with_reducible first | exact HB.out | apply below_alloc | apply pw_below_drewN | apply below_drew1 | refine below_set ?_ GE110.out) | exact HB.out))) : w.heap.size ≤ gb112)); have n4_ := Aside0.mk ((by rw [hg]; exact (below_size (by repeat (first | (with_reducible first | exact HB.out | apply below_alloc | apply pw_below_drewN | apply below_drew1 | refine below_set ?_ GE110.out) | exact HB.out))) : w.heap.size ≤ gb112)); have n5_ := Aside0.mk ((by rw [hg]; exact Nat.ne_of_lt (blk_lt (g := gb110) (o := .cells #[.string x111000_1, .int .i64 x111001_1, .bool x111002_1, .bool x111003_1, .bool x111004_1, .int .i64 x111005_1] 31 (0, 0)) (by (with_reducible repeat (first | refine blk_drewN ?_ _ | refine blk_drew ?_ | refine blk_alloc ?_ _)); exact BK110.out)) : gb110 ≠ gb112)); have n6_ := Aside0.mk ((by rw [hg]; exact Nat.ne_of_gt (blk_lt (g := gb110) (o := .cells #[.string x111000_1, .int .i64 x111001_1, .bool x111002_1, .bool x111003_1, .bool x111004_1, .int .i64 x111005_1] 31 (0, 0)) (by (with_reducible repeat (first | refine blk_drewN ?_ _ | refine blk_drew ?_ | refine blk_alloc ?_ _)); exact BK110.out)) : gb112 ≠ gb110)); clear BK110; clear HB; have BK110 := n0_; have HB := n1_; have BK112 := n2_; have GW112 := n3_; have GE112 := n4_; have NB110_112 := n5_; have NB112_110 := n6_; clear n0_ n1_ n2_ n3_ n4_ n5_ n6_; clear hb hbox hg; have hnb9 := NB112_110.out; have hnc9 := NB110_112.out; have hcz10_0 : w8.cell? ⟨gb112, 0, none⟩ = some (.string (⟨#[]⟩ : ByteArray)) := (blk_cell BK112.out 0).trans rfl; have hcz10_1 : w8.cell? ⟨gb112, 1, none⟩ = some (.int .i64 0) := (blk_cell BK112.out 1).trans rfl; have hcz10_2 : w8.cell? ⟨gb112, 2, none⟩ = some (.bool false) := (blk_cell BK112.out 2).trans rfl; have hcz10_3 : w8.cell? ⟨gb112, 3, none⟩ = some (.bool false) := (blk_cell BK112.out 3).trans rfl; have hcz10_4 : w8.cell? ⟨gb112, 4, none⟩ = some (.bool false) := (blk_cell BK112.out 4).trans rfl; have hcz10_5 : w8.cell? ⟨gb112, 5, none⟩ = some (.int .i64 0) := (blk_cell BK112.out 5).trans rfl; have hfz10_0 := blk_frozen BK112.out 0; have hfz10_1 := blk_frozen BK112.out 1; have hfz10_2 := blk_frozen BK112.out 2; have hfz10_3 := blk_frozen BK112.out 3; have hfz10_4 := blk_frozen BK112.out 4; have hfz10_5 := blk_frozen BK112.out 5; have hcz11_0 : w8.cell? ⟨gb110, 0, none⟩ = some (.string x111000_1) := (blk_cell BK110.out 0).trans rfl; have hcz11_1 : w8.cell? ⟨gb110, 1, none⟩ = some (.int .i64 x111001_1) := (blk_cell BK110.out 1).trans rfl; have hcz11_2 : w8.cell? ⟨gb110, 2, none⟩ = some (.bool x111002_1) := (blk_cell BK110.out 2).trans rfl; have hcz11_3 : w8.cell? ⟨gb110, 3, none⟩ = some (.bool x111003_1) := (blk_cell BK110.out 3).trans rfl; have hcz11_4 : w8.cell? ⟨gb110, 4, none⟩ = some (.bool x111004_1) := (blk_cell BK110.out 4).trans rfl; have hcz11_5 : w8.cell? ⟨gb110, 5, none⟩ = some (.int .i64 x111005_1) := (blk_cell BK110.out 5).trans rfl; have hfz11_0 := blk_frozen BK110.out 0; have hfz11_1 := blk_frozen BK110.out 1; have hfz11_2 := blk_frozen BK110.out 2; have hfz11_3 := blk_frozen BK110.out 3; have hfz11_4 := blk_frozen BK110.out 4; have hfz11_5 := blk_frozen BK110.out 5))
              refine bodyPost_ret (results_ct rfl _ _ gb110 31 #[.string ((rd_T31 l0 x10_1).f0), .int .i64 ((rd_T31 l0 x10_1).f1), .bool ((rd_T31 l0 x10_1).f2), .bool ((rd_T31 l0 x10_1).f3), .bool ((rd_T31 l0 x10_1).f4), .int .i64 ((rd_T31 l0 x10_1).f5)] (0, 0) _ rfl (by (with_reducible repeat (first | refine blk_drewN ?_ _ | refine blk_drew ?_ | refine blk_alloc ?_ _)); refine blk_put (cs := #[.string ((rd_T31 l0 x10_1).f0), .int .i64 ((rd_T31 l0 x10_1).f1), .bool ((rd_T31 l0 x10_1).f2), .bool ((rd_T31 l0 x10_1).f3), .bool ((rd_T31 l0 x10_1).f4), .int .i64 x111005_1]) ?_ 5 _ rfl; (with_reducible repeat (first | refine blk_drewN ?_ _ | refine blk_drew ?_ | refine blk_alloc ?_ _)); refine blk_put (cs := #[.string ((rd_T31 l0 x10_1).f0), .int .i64 ((rd_T31 l0 x10_1).f1), .bool ((rd_T31 l0 x10_1).f2), .bool ((rd_T31 l0 x10_1).f3), .bool x111004_1, .int .i64 x111005_1]) ?_ 4 _ rfl; (with_reducible repeat (first | refine blk_drewN ?_ _ | refine blk_drew ?_ | refine blk_alloc ?_ _)); refine blk_put (cs := #[.string ((rd_T31 l0 x10_1).f0), .int .i64 ((rd_T31 l0 x10_1).f1), .bool ((rd_T31 l0 x10_1).f2), .bool x111003_1, .bool x111004_1, .int .i64 x111005_1]) ?_ 3 _ rfl; (with_reducible repeat (first | refine blk_drewN ?_ _ | refine blk_drew ?_ | refine blk_alloc ?_ _)); refine blk_put (cs := #[.string ((rd_T31 l0 x10_1).f0), .int .i64 ((rd_T31 l0 x10_1).f1), .bool x111002_1, .bool x111003_1, .bool x111004_1, .int .i64 x111005_1]) ?_ 2 _ rfl; (with_reducible repeat (first | refine blk_drewN ?_ _ | refine blk_drew ?_ | refine blk_alloc ?_ _)); refine blk_put (cs := #[.string ((rd_T31 l0 x10_1).f0), .int .i64 x111001_1, .bool x111002_1, .bool x111003_1, .bool x111004_1, .int .i64 x111005_1]) ?_ 1 _ rfl; (with_reducible repeat (first | refine blk_drewN ?_ _ | refine blk_drew ?_ | refine blk_alloc ?_ _)); refine blk_put (cs := #[.string x111000_1, .int .i64 x111001_1, .bool x111002_1, .bool x111003_1, .bool x111004_1, .int .i64 x111005_1]) ?_ 0 _ rfl; (with_reducible repeat (first | refine blk_drewN ?_ _ | refine blk_drew ?_ | refine blk_alloc ?_ _)); refine blk_far ?_ NB110_112.out _; (with_reducible repeat (first | refine blk_drewN ?_ _ | refine blk_drew ?_ | refine blk_alloc ?_ _)); refine blk_far ?_ NB110_112.out _; (with_reducible repeat (first | refine blk_drewN ?_ _ | refine blk_drew ?_ | refine blk_alloc ?_ _)); refine blk_far ?_ NB110_112.out _; (with_reducible repeat (first | refine blk_drewN ?_ _ | refine blk_drew ?_ | refine blk_alloc ?_ _)); refine blk_far ?_ NB110_112.out _; (with_reducible repeat (first | refine blk_drewN ?_ _ | refine blk_drew ?_ | refine blk_alloc ?_ _)); refine blk_far ?_ NB110_112.out _; (with_reducible repeat (first | refine blk_drewN ?_ _ | refine blk_drew ?_ | refine blk_alloc ?_ _)); refine blk_far ?_ NB110_112.out _; (with_reducible repeat (first | refine blk_drewN ?_ _ | refine blk_drew ?_ | refine blk_alloc ?_ _)); exact BK110.out) Try.underlying31 rfl (by kernel_rfl)) rfl ?_
              exact ⟨by first | rfl | (simp [errW_none, errW_some] <;> rfl) | (simp [*, errW_none, errW_some] <;> rfl), by repeat (first | (with_reducible first | exact HB.out | apply below_alloc | apply pw_below_drewN | apply below_drew1 | refine below_set ?_ GE110.out | refine below_set ?_ GE112.out) | exact HB.out)⟩
            · rw [if_neg c7] at H
              have c7b0 : (((rd_T31 l0 x10_1).f0).toList == a1.toList) = false := beq_eq_false_iff_ne.mpr c7
              have c7b1 : (((rd_T31 l0 x10_1).f0).toList != a1.toList) = true := bne_iff_ne.mpr c7
              have H' := Aside0.mk H
              clear H
              have p111 : 0 ≤ (x10_1 : Int) := of_decide_eq_true (by first | (with_reducible assumption) | assumption)
              have q111 : x10_1 < (l0.length : Int) := of_decide_eq_true (by first | (with_reducible assumption) | assumption)
              obtain ⟨ad111, e111, hx111_0, hx111_1, hx111_2, hx111_3, hx111_4, hx111_5⟩ := at_T31 HR0.out x10_1 p111 q111
              cases e111
              replace hx111_0 := (HB.out.cell (World.block_lt_of_cell? w _ hx111_0)).trans hx111_0
              replace hx111_1 := (HB.out.cell (World.block_lt_of_cell? w _ hx111_1)).trans hx111_1
              replace hx111_2 := (HB.out.cell (World.block_lt_of_cell? w _ hx111_2)).trans hx111_2
              replace hx111_3 := (HB.out.cell (World.block_lt_of_cell? w _ hx111_3)).trans hx111_3
              replace hx111_4 := (HB.out.cell (World.block_lt_of_cell? w _ hx111_4)).trans hx111_4
              replace hx111_5 := (HB.out.cell (World.block_lt_of_cell? w _ hx111_5)).trans hx111_5
              replace p111 := eq_true p111
              replace q111 := eq_true q111
              go_wp2_with (first | ((with_reducible refine gate_dst (N := 7) rfl ?_); refine box_event ?hg (N := 7) ?hd (cs := #[.string (⟨#[]⟩ : ByteArray), .int .i64 0, .bool false, .bool false, .bool false, .int .i64 0]) (t := 31) ?hr ?_; (case hd => rfl); (case hg => rfl); (case hr => first | (go_simp; done) | (go_simp; rfl)); intro gb112 hg w12 hbox hb; have n0_ := Aside0.mk (blk_below (g := gb110) (o := .cells #[.string x111000_1, .int .i64 x111001_1, .bool x111002_1, .bool x111003_1, .bool x111004_1, .int .i64 x111005_1] 31 (0, 0)) (by (with_reducible repeat (first | refine blk_drewN ?_ _ | refine blk_drew ?_ | refine blk_alloc ?_ _)); exact BK110.out) hb); have n1_ := Aside0.mk (below_step (by repeat (first | (with_reducible first | exact HB.out | apply below_alloc | apply pw_below_drewN | apply below_drew1 | refine below_set ?_ GE110.out) | exact HB.out)) hb); have n2_ := Aside0.mk (hbox); have n3_ := Aside0.mk ((by rw [hg]; exact (below_size (by repeat (first | (with_reducible first | exact HB.out | apply below_alloc | apply pw_below_drewN | apply below_drew1 | refine below_set ?_ GE110.out) | exact HB.out))) : w.heap.size ≤ gb112)); have n4_ := Aside0.mk ((by rw [hg]; exact (below_size (by repeat (first | (with_reducible first | exact HB.out | apply below_alloc | apply pw_below_drewN | apply below_drew1 | refine below_set ?_ GE110.out) | exact HB.out))) : w.heap.size ≤ gb112)); have n5_ := Aside0.mk ((by rw [hg]; exact Nat.ne_of_lt (blk_lt (g := gb110) (o := .cells #[.string x111000_1, .int .i64 x111001_1, .bool x111002_1, .bool x111003_1, .bool x111004_1, .int .i64 x111005_1] 31 (0, 0)) (by (with_reducible repeat (first | refine blk_drewN ?_ _ | refine blk_drew ?_ | refine blk_alloc ?_ _)); exact BK110.out)) : gb110 ≠ gb112)); have n6_ := Aside0.mk ((by rw [hg]; exact Nat.ne_of_gt (blk_lt (g := gb110) (o := .cells #[.string x111000_1, .int .i64 x111001_1, .bool x111002_1, .bool x111003_1, .bool x111004_1, .int .i64 x111005_1] 31 (0, 0)) (by (with_reducible repeat (first | refine blk_drewN ?_ _ | refine blk_drew ?_ | refine blk_alloc ?_ _)); exact BK110.out)) : gb112 ≠ gb110)); clear BK110; clear HB; have BK110 := n0_; have HB := n1_; have BK112 := n2_; have GW112 := n3_; have GE112 := n4_; have NB110_112 := n5_; have NB112_110 := n6_; clear n0_ n1_ n2_ n3_ n4_ n5_ n6_; clear hb hbox hg; have hnb13 := NB112_110.out; have hnc13 := NB110_112.out; have hcz14_0 : w12.cell? ⟨gb112, 0, none⟩ = some (.string (⟨#[]⟩ : ByteArray)) := (blk_cell BK112.out 0).trans rfl; have hcz14_1 : w12.cell? ⟨gb112, 1, none⟩ = some (.int .i64 0) := (blk_cell BK112.out 1).trans rfl; have hcz14_2 : w12.cell? ⟨gb112, 2, none⟩ = some (.bool false) := (blk_cell BK112.out 2).trans rfl; have hcz14_3 : w12.cell? ⟨gb112, 3, none⟩ = some (.bool false) := (blk_cell BK112.out 3).trans rfl; have hcz14_4 : w12.cell? ⟨gb112, 4, none⟩ = some (.bool false) := (blk_cell BK112.out 4).trans rfl; have hcz14_5 : w12.cell? ⟨gb112, 5, none⟩ = some (.int .i64 0) := (blk_cell BK112.out 5).trans rfl; have hfz14_0 := blk_frozen BK112.out 0; have hfz14_1 := blk_frozen BK112.out 1; have hfz14_2 := blk_frozen BK112.out 2; have hfz14_3 := blk_frozen BK112.out 3; have hfz14_4 := blk_frozen BK112.out 4; have hfz14_5 := blk_frozen BK112.out 5))
              go_roundg k1
              case measure => have := HK1.out; omega
              case rel => exact ⟨(wrap64 (x10_1 + 1)), (x111000_1), (x111001_1), (x111002_1), (x111003_1), (x111004_1), (x111005_1), (by first | rfl | (simp; done) | (simp [*]; done)), H', ⟨by have := HK1.out; omega⟩, ⟨by (with_reducible repeat (first | refine blk_drewN ?_ _ | refine blk_drew ?_ | refine blk_alloc ?_ _)); refine blk_far ?_ NB110_112.out _; (with_reducible repeat (first | refine blk_drewN ?_ _ | refine blk_drew ?_ | refine blk_alloc ?_ _)); refine blk_far ?_ NB110_112.out _; (with_reducible repeat (first | refine blk_drewN ?_ _ | refine blk_drew ?_ | refine blk_alloc ?_ _)); refine blk_far ?_ NB110_112.out _; (with_reducible repeat (first | refine blk_drewN ?_ _ | refine blk_drew ?_ | refine blk_alloc ?_ _)); refine blk_far ?_ NB110_112.out _; (with_reducible repeat (first | refine blk_drewN ?_ _ | refine blk_drew ?_ | refine blk_alloc ?_ _)); refine blk_far ?_ NB110_112.out _; (with_reducible repeat (first | refine blk_drewN ?_ _ | refine blk_drew ?_ | refine blk_alloc ?_ _)); refine blk_far ?_ NB110_112.out _; (with_reducible repeat (first | refine blk_drewN ?_ _ | refine blk_drew ?_ | refine blk_alloc ?_ _)); exact BK110.out⟩, ⟨by repeat (first | (with_reducible first | exact HB.out | apply below_alloc | apply pw_below_drewN | apply below_drew1 | refine below_set ?_ GE110.out | refine below_set ?_ GE112.out) | exact HB.out)⟩⟩
          · rw [if_neg c6] at H
            exact absurd H (by simp)
        · rw [if_neg c5] at H
          exact absurd H (by simp)
      · rw [if_neg c4] at H
        have c4b0 : decide (x10_1 < (l0.length : Int)) = false := decide_eq_false c4
        clear c4
        simp only [Option.some.injEq, Prod.mk.injEq] at H
        obtain ⟨rfl, rfl, rfl, rfl, rfl, rfl, rfl⟩ := H
        have hcz15_0 : wr.cell? ⟨gb110, 0, none⟩ = some (.string x111000_1) := (blk_cell BK110.out 0).trans rfl
        have hcz15_1 : wr.cell? ⟨gb110, 1, none⟩ = some (.int .i64 x111001_1) := (blk_cell BK110.out 1).trans rfl
        have hcz15_2 : wr.cell? ⟨gb110, 2, none⟩ = some (.bool x111002_1) := (blk_cell BK110.out 2).trans rfl
        have hcz15_3 : wr.cell? ⟨gb110, 3, none⟩ = some (.bool x111003_1) := (blk_cell BK110.out 3).trans rfl
        have hcz15_4 : wr.cell? ⟨gb110, 4, none⟩ = some (.bool x111004_1) := (blk_cell BK110.out 4).trans rfl
        have hcz15_5 : wr.cell? ⟨gb110, 5, none⟩ = some (.int .i64 x111005_1) := (blk_cell BK110.out 5).trans rfl
        have hfz15_0 := blk_frozen BK110.out 0
        have hfz15_1 := blk_frozen BK110.out 1
        have hfz15_2 := blk_frozen BK110.out 2
        have hfz15_3 := blk_frozen BK110.out 3
        have hfz15_4 := blk_frozen BK110.out 4
        have hfz15_5 := blk_frozen BK110.out 5
        go_wp2
        refine bodyPost_ret (results_ct rfl _ _ gb110 31 #[.string (⟨#[]⟩ : ByteArray), .int .i64 0, .bool false, .bool false, .bool false, .int .i64 0] (0, 0) _ rfl (by (with_reducible repeat (first | refine blk_drewN ?_ _ | refine blk_drew ?_ | refine blk_alloc ?_ _)); refine blk_put (cs := #[.string (⟨#[]⟩ : ByteArray), .int .i64 0, .bool false, .bool false, .bool false, .int .i64 x111005_1]) ?_ 5 _ rfl; (with_reducible repeat (first | refine blk_drewN ?_ _ | refine blk_drew ?_ | refine blk_alloc ?_ _)); refine blk_put (cs := #[.string (⟨#[]⟩ : ByteArray), .int .i64 0, .bool false, .bool false, .bool x111004_1, .int .i64 x111005_1]) ?_ 4 _ rfl; (with_reducible repeat (first | refine blk_drewN ?_ _ | refine blk_drew ?_ | refine blk_alloc ?_ _)); refine blk_put (cs := #[.string (⟨#[]⟩ : ByteArray), .int .i64 0, .bool false, .bool x111003_1, .bool x111004_1, .int .i64 x111005_1]) ?_ 3 _ rfl; (with_reducible repeat (first | refine blk_drewN ?_ _ | refine blk_drew ?_ | refine blk_alloc ?_ _)); refine blk_put (cs := #[.string (⟨#[]⟩ : ByteArray), .int .i64 0, .bool x111002_1, .bool x111003_1, .bool x111004_1, .int .i64 x111005_1]) ?_ 2 _ rfl; (with_reducible repeat (first | refine blk_drewN ?_ _ | refine blk_drew ?_ | refine blk_alloc ?_ _)); refine blk_put (cs := #[.string (⟨#[]⟩ : ByteArray), .int .i64 x111001_1, .bool x111002_1, .bool x111003_1, .bool x111004_1, .int .i64 x111005_1]) ?_ 1 _ rfl; (with_reducible repeat (first | refine blk_drewN ?_ _ | refine blk_drew ?_ | refine blk_alloc ?_ _)); refine blk_put (cs := #[.string x111000_1, .int .i64 x111001_1, .bool x111002_1, .bool x111003_1, .bool x111004_1, .int .i64 x111005_1]) ?_ 0 _ rfl; (with_reducible repeat (first | refine blk_drewN ?_ _ | refine blk_drew ?_ | refine blk_alloc ?_ _)); exact BK110.out) Try.underlying31 rfl (by kernel_rfl)) rfl ?_
        exact ⟨by first | rfl | (simp [errW_none, errW_some] <;> rfl) | (simp [*, errW_none, errW_some] <;> rfl), by repeat (first | (with_reducible first | exact HB.out | apply below_alloc | apply pw_below_drewN | apply below_drew1 | refine below_set ?_ GE110.out) | exact HB.out)⟩

end Go.Proofs.Ytbmcddmhfnnccaa.Q
