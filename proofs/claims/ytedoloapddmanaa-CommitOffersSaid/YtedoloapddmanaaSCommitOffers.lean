/- The pure statement of CommitOffers. -/
import Derived.Test.YtedoloapddmanaaPBx20
import Derived.Test.YtedoloapddmanaaPBKinds
namespace Go.Proofs.Ytedoloapddmanaa.PB
open Go.RowKit Go.ChangeShapes Go.WideShapes Go.Proofs.Ytedoloapddmanaa.Open Go.Proofs.YtedoloapddmanaaW.PrintWords
set_option linter.unusedVariables false
def standbylaw32_CommitOffers.Pure : Prop := ∀ (a0_0 : Int) (a0_1 : Int) (l0_2 : List Int) (a0_3 : Int) (a0_4 : Int) (a1 : Int), (Lit.int .i64 a0_0).wf = true → (Lit.int .i64 a0_1).wf = true → (∀ x ∈ l0_2, (fun a => (Lit.int .i64 a).wf = true) x) → l0_2.length ≤ maxLen → (Lit.int .i64 a0_3).wf = true → (Lit.int .i64 a0_4).wf = true → (Lit.int .i64 a1).wf = true → ∃ k, standbylaw32_CommitOffers.f k a0_0 a0_1 l0_2 a0_3 a0_4 a1 = some true
end Go.Proofs.Ytedoloapddmanaa.PB
