/- The pure statement of CommitGrows. -/
import Derived.Test.YtedoloapddmanaaPBx31
import Derived.Test.YtedoloapddmanaaPBKinds
namespace Go.Proofs.Ytedoloapddmanaa.PB
open Go.RowKit Go.ChangeShapes Go.WideShapes Go.Proofs.Ytedoloapddmanaa.Open Go.Proofs.YtedoloapddmanaaW.PrintWords
set_option linter.unusedVariables false
def standbylaw32_CommitGrows.Pure : Prop := ∀ (l0 : List (S71)), (∀ x ∈ l0, G71 x) → l0.length ≤ maxLen → ∃ k, standbylaw32_CommitGrows.f k l0 = some true
end Go.Proofs.Ytedoloapddmanaa.PB
