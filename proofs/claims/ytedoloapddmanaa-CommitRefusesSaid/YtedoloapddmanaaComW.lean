/- The examples of the chapter hold (awake). -/
import Derived.Test.YtedoloapddmanaaPBx12
import Derived.Test.YtedoloapddmanaaComA
namespace Go.Proofs.Ytedoloapddmanaa.PB
open Go.RowKit Go.Proofs.YtedoloapddmanaaW.PrintWords Go.Proofs.YtedoloapddmanaaW.PrintLast Go.Proofs.YtedoloapddmanaaW.PrintMore
set_option linter.unusedVariables false
set_option linter.unusedSimpArgs false
theorem awake_f (k : Nat) (hk : 40 ≤ k) : standbylaw32_awake.f k = some true :=
  more standbylaw32_awake.mono (k0 := 40) (by decide +kernel) k hk
end Go.Proofs.Ytedoloapddmanaa.PB
