/- Lines of payslips: what is merged has the sums of what it was merged from. Plain Lean. -/
import Derived.Test.YtdlljjglmcpniaaLib34s
namespace Go.Proofs.Ytdlljjglmcpniaa.Lib34
open Go.RowKit Go.Proofs.Ytdlljjglmcpniaa.Q Go.Proofs.YtdlljjglmcpniaaW.PrintWords Go.Proofs.YtdlljjglmcpniaaW.PrintLast Go.Proofs.Ytdlljjglmcpniaa.MapKit Go.Proofs.Ytdlljjglmcpniaa.ListKit Go.Proofs.Ytdlljjglmcpniaa.Lib17
theorem sum_lines : ∀ (m : List (Pr Int Str × Int)), (m.map (·.1)).Nodup → ∀ k, sumG keyL amtL (linesL m) k = (m.lookup k).getD 0
  | [], _, k => rfl
  | (x, w) :: r, hn, k => by
    simp only [List.map_cons, List.nodup_cons] at hn
    have ih := sum_lines r hn.2 k
    have h : sumG keyL amtL (linesL ((x, w) :: r)) k = (if x = k then w else 0) + sumG keyL amtL (linesL r) k := by
      unfold linesL keepG
      by_cases hw : w = 0
      · rw [List.filter_cons_of_neg (by simp [hw])]
        subst hw
        simp
      · rw [List.filter_cons_of_pos (by simpa using hw), List.map_cons, sumG_cons]
        rfl
    rw [h, ih]
    by_cases hk : k = x
    · subst hk
      rw [lookup_none.2 hn.1]
      simp [List.lookup_cons]
    · have hb : (k == x) = false := beq_eq_false_iff_ne.2 hk
      have hk2 : ¬ x = k := fun e => hk e.symm
      simp [List.lookup_cons, hb, hk2]
theorem sum_merged {c : Int} (h0 : 0 ≤ c) (l : List Ln) (h : SmallL c l) (hl : c * l.length ≤ 1000000000000) (k : Pr Int Str) : sumG keyL amtL (linesL (sumsL l)) k = sumG keyL amtL l k := by
  rw [sum_lines _ ((sumsL_asc l).nodup orderK), sums_getD]
  have := sumG_small h0 k l h
  exact wrapid (by omega) (by omega)
theorem merged_small {c : Int} (h0 : 0 ≤ c) (l : List Ln) (h : SmallL c l) (hl : c * l.length ≤ 1000000000000) : SmallL (c * l.length) (linesL (sumsL l)) := by
  intro y hy
  obtain ⟨⟨k, v⟩, hp, rfl⟩ := List.mem_map.1 hy
  have hm := (List.mem_filter.1 hp).1
  have h1 := lookup_of_mem ((sumsL_asc l).nodup orderK) hm
  unfold sumsL at h1
  rw [addsG_nil_lookup] at h1
  by_cases hh : hasG keyL l k = true
  · rw [if_pos hh] at h1
    have hv := Option.some.inj h1
    have h2 := sumG_small h0 k l h
    rw [wrapid (by omega) (by omega)] at hv
    obtain ⟨x, hx, hk⟩ := List.any_eq_true.1 hh
    have hk : keyL x = k := of_decide_eq_true hk
    have hf := (h x hx).1
    have hv2 : (toL (k, v)).f2 = v := rfl
    refine ⟨?_, by rw [hv2]; omega, by rw [hv2]; omega⟩
    subst hk
    unfold formL formS at hf ⊢
    simp only [toL, keyL, Bool.and_eq_true] at hf ⊢
    exact ⟨hf.1, decide_eq_true (by omega), hf.2.2⟩
  · rw [if_neg hh] at h1; cases h1
theorem SmallL.append {c : Int} {a b : List Ln} (ha : SmallL c a) (hb : SmallL c b) : SmallL c (a ++ b) := fun x hx => by
  rcases List.mem_append.1 hx with h | h
  · exact ha x h
  · exact hb x h
theorem SmallL.mono {c d : Int} {a : List Ln} (ha : SmallL c a) (h : c ≤ d) : SmallL d a := fun x hx => by
  obtain ⟨h1, h2, h3⟩ := ha x hx
  exact ⟨h1, by omega, by omega⟩
end Go.Proofs.Ytdlljjglmcpniaa.Lib34
