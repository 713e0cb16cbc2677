/- What package delta and its reference answer on recoveries: plain Lean over the printed functions. -/
import Derived.Test.YtdlljjglmcpniaaDeckLib
import Derived.Test.YtdlljjglmcpniaaQx0
import Derived.Test.YtdlljjglmcpniaaQx6
namespace Go.Proofs.Ytdlljjglmcpniaa.Lib37
open Go.RowKit Go.Proofs.Ytdlljjglmcpniaa.Q Go.Proofs.YtdlljjglmcpniaaW.PrintWords Go.Proofs.YtdlljjglmcpniaaW.PrintLast Go.Proofs.YtdlljjglmcpniaaW.PrintMore Go.Proofs.Ytdlljjglmcpniaa.DeckLib
def prt (net share : Int) : Int := net * share / 1000000
def holdS (debt keep share net : Int) : Int := mn (mn debt (prt net share)) (mx (wrap64 (net - keep)) 0)
def recSpec (a0 a1 a2 a3 : Int) : Int × Int × Int :=
  if rangeR a0 a1 a2 a3 = true then (if a1 ≤ a0 then (a0, 0, 0) else (wrap64 (a1 - holdS (wrap64 (a1 - a0)) a2 a3 a1), wrap64 (a0 - wrap64 (a1 - holdS (wrap64 (a1 - a0)) a2 a3 a1)), 0)) else (0, 0, 2)
theorem awake_ok (k : Nat) (hk : 200 ≤ k) : payrolllaw37_awake.f k = some true :=
  at_rounds (g := payrolllaw37_awake.f) payrolllaw37_awake.mono hk (by decide +kernel)
end Go.Proofs.Ytdlljjglmcpniaa.Lib37
