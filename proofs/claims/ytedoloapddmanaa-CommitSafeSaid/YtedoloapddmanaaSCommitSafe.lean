/- The pure statement of CommitSafe. -/
import Derived.Test.YtedoloapddmanaaPBx30
import Derived.Test.YtedoloapddmanaaPBKinds
namespace Go.Proofs.Ytedoloapddmanaa.PB
open Go.RowKit Go.ChangeShapes Go.WideShapes Go.Proofs.Ytedoloapddmanaa.Open Go.Proofs.YtedoloapddmanaaW.PrintWords
set_option linter.unusedVariables false
def standbylaw32_CommitSafe.Pure : Prop := ∀ (l0 : List (S71)), (∀ x ∈ l0, G71 x) → l0.length ≤ maxLen → ∃ k, standbylaw32_CommitSafe.f k l0 = some true
end Go.Proofs.Ytedoloapddmanaa.PB
