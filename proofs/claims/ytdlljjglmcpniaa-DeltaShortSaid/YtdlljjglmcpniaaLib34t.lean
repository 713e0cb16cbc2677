/- Lines of payslips: what is merged has the sums of what it was merged from. Plain Lean. -/
import Derived.Test.YtdlljjglmcpniaaLib34s
namespace Go.Proofs.Ytdlljjglmcpniaa.Lib34
open Go.RowKit Go.Proofs.Ytdlljjglmcpniaa.Q Go.Proofs.YtdlljjglmcpniaaW.PrintWords Go.Proofs.YtdlljjglmcpniaaW.PrintLast Go.Proofs.Ytdlljjglmcpniaa.MapKit Go.Proofs.Ytdlljjglmcpniaa.ListKit Go.Proofs.Ytdlljjglmcpniaa.Lib17
theorem sum_lines : ∀ (m : List (Pr Int Str × Int)), (m.map (·.1)).Nodup → ∀ k, sumG keyL amtL (linesL m) k = (m.lookup k).getD 0
  | [], _, k => rfl
  | (x, w) :: r, hn, k => by
    simp only [List.map_cons, List.nodup_cons] at hn
    have ih := sum_lines r hn.2 k
    have h : sumG keyL amtL (linesL ((x, w) :: r)) k = (if x = k then w else 0) + sumG keyL amtL (linesL r) k := by
      unfold linesL keepG
      by_cases hw : w = 0
      · rw [List.filter_cons_of_neg (by simp [hw])]
        subst hw
        simp
      · rw [List.filter_cons_of_pos (by simpa using hw), List.map_cons, sumG_cons]
        rfl
    rw [h, ih]
    by_cases hk : k = x
    · subst hk
      rw [lookup_none.2 hn.1]
      simp [List.lookup_cons]
    · have hb : (k == x) = false := beq_eq_false_iff_ne.2 hk
      have hk2 : ¬ x = k := fun e => hk e.symm
      simp [List.lookup_cons, hb, hk2]
theorem SmallL.append {c : Int} {a b : List Ln} (ha : SmallL c a) (hb : SmallL c b) : SmallL c (a ++ b) := fun x hx => by
  rcases List.mem_append.1 hx with h | h
  · exact ha x h
  · exact hb x h
theorem SmallL.mono {c d : Int} {a : List Ln} (ha : SmallL c a) (h : c ≤ d) : SmallL d a := fun x hx => by
  obtain ⟨h1, h2, h3⟩ := ha x hx
  exact ⟨h1, by omega, by omega⟩
end Go.Proofs.Ytdlljjglmcpniaa.Lib34
