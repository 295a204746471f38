/- The pure statement of CommitRefuses. -/
import Derived.Test.YtedoloapddmanaaPBx33
import Derived.Test.YtedoloapddmanaaPBKinds
namespace Go.Proofs.Ytedoloapddmanaa.PB
open Go.RowKit Go.ChangeShapes Go.WideShapes Go.Proofs.Ytedoloapddmanaa.Open Go.Proofs.YtedoloapddmanaaW.PrintWords
set_option linter.unusedVariables false
def standbylaw32_CommitRefuses.Pure : Prop := ∀ (l0 : List (S71)), (∀ x ∈ l0, G71 x) → l0.length ≤ maxLen → ∃ k, standbylaw32_CommitRefuses.f k l0 = some true
end Go.Proofs.Ytedoloapddmanaa.PB
