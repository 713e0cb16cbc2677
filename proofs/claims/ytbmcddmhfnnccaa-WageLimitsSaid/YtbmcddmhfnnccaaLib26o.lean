/- Bases: package wage and its reference answer the same; bases add up. Plain Lean over the printed functions. -/
import Derived.Test.YtbmcddmhfnnccaaLib26
namespace Go.Proofs.Ytbmcddmhfnnccaa.Lib26
open Go.RowKit Go.Proofs.Ytbmcddmhfnnccaa.Q Go.Proofs.YtbmcddmhfnnccaaW.PrintWords Go.Proofs.YtbmcddmhfnnccaaW.PrintLast Go.Proofs.Ytbmcddmhfnnccaa.MapKit Go.Proofs.Ytbmcddmhfnnccaa.ListKit Go.Proofs.Ytbmcddmhfnnccaa.Lib17
def ofS (w : List Wg) (e : List El) : Int × Int × Int × Int × Int × Int := if validW w = true then (if (sumsS e).2 = 0 then ofPure w (sumsS e).1 else (0, 0, 0, 0, 0, (sumsS e).2)) else (0, 0, 0, 0, 0, 1)
theorem valid_len {w : List Wg} (h : validW w = true) : w.length ≤ 64 := by
  unfold validW at h
  rw [Bool.and_eq_true] at h
  exact of_decide_eq_true h.1
theorem of_ev (w : List Wg) (e : List El) : Ev (fun k => wage_Of.f k w e) (ofS w e) := by
  unfold wage_Of.f ofS
  refine Ev.bind (valid_ev w) ?_
  by_cases h : validW w = true
  · rw [if_pos h]
    refine Ev.congr (fun k => if_pos h) (Ev.bind (sums_ev e) ?_)
    by_cases h2 : (sumsS e).2 = 0
    · rw [if_pos h2]
      refine Ev.congr (fun k => if_pos h2) ⟨65, fun k hk => ?_⟩
      have := valid_len h
      exact if_pos ⟨by omega, by omega⟩
    · rw [if_neg h2]; exact Ev.congr (fun k => if_neg h2) (Ev.now _)
  · rw [if_neg h]; exact Ev.congr (fun k => if_neg h) (Ev.now _)
/-! ### bases add up -/
def counts (g : Wg → Bool) (w : List Wg) (s : Str) : Bool := match findW w s.s with | some x => g x | none => false
/-- Elements of wage types, small. -/
structure SmallE (w : List Wg) (l : List El) : Prop where
  name : ∀ x ∈ l, nameS x.f0 = true
  code : ∀ x ∈ l, (findW w x.f0).isSome = true
  lo : ∀ x ∈ l, -600000 ≤ amtE x ∧ amtE x ≤ 600000
theorem SmallE.append {w : List Wg} {a b : List El} (ha : SmallE w a) (hb : SmallE w b) : SmallE w (a ++ b) :=
  ⟨fun x hx => (List.mem_append.1 hx).elim (ha.name x) (hb.name x), fun x hx => (List.mem_append.1 hx).elim (ha.code x) (hb.code x), fun x hx => (List.mem_append.1 hx).elim (ha.lo x) (hb.lo x)⟩
end Go.Proofs.Ytbmcddmhfnnccaa.Lib26
