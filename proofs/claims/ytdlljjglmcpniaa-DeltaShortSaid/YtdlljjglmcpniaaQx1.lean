-- Printed by wip/xprint.py over the translation, with contracts proved by hand among them. Lean checks it.
import Derived.Test.YtdlljjglmcpniaaQx0
namespace Go.Proofs.Ytdlljjglmcpniaa.Q
open Go.RowKit Go.Proofs.YtdlljjglmcpniaaW.PrintWords Go.Proofs.YtdlljjglmcpniaaW.PrintLast Go.Proofs.YtdlljjglmcpniaaW.PrintMore
attribute [local go_sem] max2_int min2_int max_two min_two max_three min_three max_four min_four   -- for this text's walks alone
set_option linter.unusedVariables false
set_option linter.unusedSimpArgs false

theorem eqA56 (d : Nat) (w : World) (x0 y0 : Int) (x1 y1 : ByteArray) (x2 y2 : Int) :
    (Op.equalIn (d + 2) 56 (.agg #[.int .i64 x0, .string x1, .int .i64 x2]) (.agg #[.int .i64 y0, .string y1, .int .i64 y2])).run Try.prog w = .ok (x0 == y0 && (x1.toList == y1.toList && (x2 == y2))) w := by
  refine eqA_of Try.underlying56 (by kernel_rfl) ?_
  refine eqf_cons (by rfl) (by go_simp; rfl) (by go_simp; rfl) (by go_simp) ?_
  refine eqf_cons (by rfl) (by go_simp; rfl) (by go_simp; rfl) (by go_simp) ?_
  exact eqf_last (by rfl) (by go_simp; rfl) (by go_simp; rfl) (by go_simp)
end Go.Proofs.Ytdlljjglmcpniaa.Q
