/- The pure statement of ThrottleAccounts. -/
import Derived.Test.YtppniempndnghaaPAx20
import Derived.Test.YtppniempndnghaaPAKinds
namespace Go.Proofs.Ytppniempndnghaa.PA
open Go.RowKit Go.ChangeShapes Go.WideShapes Go.Proofs.Ytppniempndnghaa.Open Go.Proofs.YtppniempndnghaaW.PrintWords
set_option linter.unusedVariables false
def standbylaw33_ThrottleAccounts.Pure : Prop := ∀ (a0 : Int) (a1 : Int) (a2_0 : Int) (l2_1 : List Int), (Lit.int .u8 a0).wf = true → (Lit.int .u8 a1).wf = true → (Lit.int .u8 a2_0).wf = true → (∀ x ∈ l2_1, (fun a => (Lit.int .i8 a).wf = true) x) → l2_1.length ≤ maxLen → ∃ k, standbylaw33_ThrottleAccounts.f k a0 a1 a2_0 l2_1 = some true
end Go.Proofs.Ytppniempndnghaa.PA
