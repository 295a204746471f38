/- The pure statement of ThrottleWrites. -/
import Derived.Test.YtppniempndnghaaPAx19
import Derived.Test.YtppniempndnghaaPAKinds
namespace Go.Proofs.Ytppniempndnghaa.PA
open Go.RowKit Go.ChangeShapes Go.WideShapes Go.Proofs.Ytppniempndnghaa.Open Go.Proofs.YtppniempndnghaaW.PrintWords
set_option linter.unusedVariables false
def standbylaw33_ThrottleWrites.Pure : Prop := ∀ (a0_0 : Int) (a0_1 : Int) (a0_2 : Int) (a0_3 : Int) (l0_4 : List (S71)) (a1 : Int) (a2 : Int), (Lit.int .i64 a0_0).wf = true → (Lit.int .i64 a0_1).wf = true → (Lit.int .i64 a0_2).wf = true → (Lit.int .i64 a0_3).wf = true → (∀ x ∈ l0_4, G71 x) → l0_4.length ≤ maxLen → (Lit.int .i64 a1).wf = true → (Lit.int .i64 a2).wf = true → ∃ k, standbylaw33_ThrottleWrites.f k a0_0 a0_1 a0_2 a0_3 l0_4 a1 a2 = some true
end Go.Proofs.Ytppniempndnghaa.PA
