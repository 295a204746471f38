/- The pure statement of CommitStores. -/
import Derived.Test.YtedoloapddmanaaPBx24
import Derived.Test.YtedoloapddmanaaPBKinds
namespace Go.Proofs.Ytedoloapddmanaa.PB
open Go.RowKit Go.ChangeShapes Go.WideShapes Go.Proofs.Ytedoloapddmanaa.Open Go.Proofs.YtedoloapddmanaaW.PrintWords
set_option linter.unusedVariables false
def standbylaw32_CommitStores.Pure : Prop := ∀ (a0_0 : Int) (a0_1 : Int) (a0_2 : Int) (a0_3 : Int) (a1 : Int), (Lit.int .i64 a0_0).wf = true → (Lit.int .i64 a0_1).wf = true → (Lit.int .i64 a0_2).wf = true → (Lit.int .i64 a0_3).wf = true → (Lit.int .i64 a1).wf = true → ∃ k, standbylaw32_CommitStores.f k a0_0 a0_1 a0_2 a0_3 a1 = some true
end Go.Proofs.Ytedoloapddmanaa.PB
