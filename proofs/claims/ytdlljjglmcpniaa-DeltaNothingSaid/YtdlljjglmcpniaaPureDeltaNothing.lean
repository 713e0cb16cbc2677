/- No difference between lines and the same lines in another order, nor between lines and what they merge into: for all drawn. -/
import Derived.Test.YtdlljjglmcpniaaLib37p
import Derived.Test.YtdlljjglmcpniaaQx17
import Derived.Test.YtdlljjglmcpniaaQx16
namespace Go.Proofs.Ytdlljjglmcpniaa.Pure
open Go.RowKit Go.Proofs.Ytdlljjglmcpniaa.Q Go.Proofs.YtdlljjglmcpniaaW.PrintWords Go.Proofs.YtdlljjglmcpniaaW.PrintLast Go.Proofs.Ytdlljjglmcpniaa.ListKit Go.Proofs.Ytdlljjglmcpniaa.DeckLib Go.Proofs.Ytdlljjglmcpniaa.Lib34 Go.Proofs.Ytdlljjglmcpniaa.Lib37
theorem DeltaNothing : payrolllaw37_DeltaNothing.Pure := by
  intro l a1 _ _ _ _
  refine Ev.rounds (g := fun k => payrolllaw37_DeltaNothing.f k l a1) ?_
  unfold payrolllaw37_DeltaNothing.f paygen_New.f paygen_Mod.f
  simp only [Option.bind_some]
  obtain ⟨r, t, hr, hs, hl, t0, t1⟩ := lines_ok l 8 (by omega) 0 (by omega) (by omega)
  refine Ev.bind hr ?_
  by_cases h0 : (r.length : Int) = 0
  · exact Ev.congr (fun k => if_pos h0) (Ev.bind awake_ev (Ev.now _))
  · refine Ev.congr (fun k => if_neg h0) ?_
    obtain ⟨m, hm, h1, h2⟩ := mod_ok a1 (r.length : Int) (by omega) (by omega)
    rw [hm]
    simp only [Option.bind_some]
    have hrot : SmallL 600000 (r.drop m.toNat ++ r.take m.toNat) := SmallL.append (fun x hx => hs x (List.mem_of_mem_drop hx)) (fun x hx => hs x (List.mem_of_mem_take hx))
    have hlen : (r.drop m.toNat ++ r.take m.toNat).length = r.length := by rw [List.length_append, List.length_drop, List.length_take]; omega
    have hperm : (r.drop m.toNat ++ r.take m.toNat).Perm r := (List.perm_append_comm).trans (by rw [List.take_append_drop])
    have hM : mergeSpec r = (linesL (sumsL r), 0) := merge_small (c := 600000) (by omega) r hs (by omega) (by omega)
    have hms := merged_small (c := 600000) (by omega) r hs (by omega)
    have hml := linesL_len r
    have c1 : compareSpec r (r.drop m.toNat ++ r.take m.toNat) = ([], 0) := compare_zero (c := 600000) (by omega) hs hrot (by omega) (by omega) (by omega) (by omega) fun e => (sumG_perm hperm e).symm
    have c2 : compareSpec (linesL (sumsL r)) r = ([], 0) := compare_zero (c := 10000000) (by omega) (hms.mono (by omega)) (hs.mono (by omega)) (by omega) (by omega) (by omega) (by omega) fun e => sum_merged (c := 600000) (by omega) r hs (by omega) e
    have p1 : postSpec 1 1 0 r (r.drop m.toNat ++ r.take m.toNat) = ([], 0) := by unfold postSpec; rw [c1]; rfl
    have p2 : postSpec 1 1 0 (linesL (sumsL r)) r = ([], 0) := by unfold postSpec; rw [c2]; rfl
    refine Ev.congr (f := fun k => (payrollref34_Merge.f k r).bind fun bt455 => ((delta_Postings.f k 1 1 0 r (r.drop m.toNat ++ r.take m.toNat)).bind fun bt459 => ((delta_Postings.f k 1 1 0 bt455.1 r).bind fun bt463 => (if bt459.2 = 0 then (if bt463.2 = 0 then (if (bt459.1.length : Int) = 0 then (if (bt463.1.length : Int) = 0 then ((payrolllaw37_awake.f k).bind fun t467 => (some t467)) else (none)) else (none)) else (none)) else (none))))) (fun k => (if_pos h1).trans ((if_pos (by omega)).trans ((if_pos (by simp; omega)).trans (by rw [List.nil_append, if_pos (by rw [List.length_drop, List.length_take]; omega)])))) ?_
    refine Ev.bind (rmerge_ev r) ?_
    rw [hM]
    refine Ev.bind (post_ev 1 1 0 _ _) ?_
    rw [p1]
    refine Ev.bind (post_ev 1 1 0 _ _) ?_
    rw [p2]
    exact Ev.congr (fun k => (if_pos rfl).trans ((if_pos rfl).trans ((if_pos rfl).trans (if_pos rfl)))) (Ev.bind awake_ev (Ev.now _))
end Go.Proofs.Ytdlljjglmcpniaa.Pure
