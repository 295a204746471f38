/- The pure statement of ThrottleKeeps. -/
import Derived.Test.YtppniempndnghaaPAx40
import Derived.Test.YtppniempndnghaaPAKinds
namespace Go.Proofs.Ytppniempndnghaa.PA
open Go.RowKit Go.ChangeShapes Go.WideShapes Go.Proofs.Ytppniempndnghaa.Open Go.Proofs.YtppniempndnghaaW.PrintWords
set_option linter.unusedVariables false
def standbylaw33_ThrottleKeeps.Pure : Prop := ∀ (a0 : Int) (a1 : Int) (l2 : List Int), (Lit.int .u8 a0).wf = true → (Lit.int .u8 a1).wf = true → (∀ x ∈ l2, (fun a => (Lit.int .u16 a).wf = true) x) → l2.length ≤ maxLen → ∃ k, standbylaw33_ThrottleKeeps.f k a0 a1 l2 = some true
end Go.Proofs.Ytppniempndnghaa.PA
