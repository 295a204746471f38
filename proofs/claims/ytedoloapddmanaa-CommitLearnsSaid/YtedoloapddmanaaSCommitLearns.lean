/- The pure statement of CommitLearns. -/
import Derived.Test.YtedoloapddmanaaPBx22
import Derived.Test.YtedoloapddmanaaPBKinds
namespace Go.Proofs.Ytedoloapddmanaa.PB
open Go.RowKit Go.ChangeShapes Go.WideShapes Go.Proofs.Ytedoloapddmanaa.Open Go.Proofs.YtedoloapddmanaaW.PrintWords
set_option linter.unusedVariables false
def standbylaw32_CommitLearns.Pure : Prop := ∀ (a0_0 : Int) (a0_1 : Int) (l0_2 : List Int) (a0_3 : Int) (a0_4 : Int) (a1_0 : Int) (a1_1 : Int) (a1_2 : Int) (a1_3 : Int) (a1_4 : Int) (a1_5 : Int) (l1_6 : List Int) (l1_7 : List Int), (Lit.int .i64 a0_0).wf = true → (Lit.int .i64 a0_1).wf = true → (∀ x ∈ l0_2, (fun a => (Lit.int .i64 a).wf = true) x) → l0_2.length ≤ maxLen → (Lit.int .i64 a0_3).wf = true → (Lit.int .i64 a0_4).wf = true → (Lit.int .i64 a1_0).wf = true → (Lit.int .i64 a1_1).wf = true → (Lit.int .i64 a1_2).wf = true → (Lit.int .i64 a1_3).wf = true → (Lit.int .i64 a1_4).wf = true → (Lit.int .i64 a1_5).wf = true → (∀ x ∈ l1_6, (fun a => (Lit.int .i64 a).wf = true) x) → l1_6.length ≤ maxLen → (∀ x ∈ l1_7, (fun a => (Lit.int .u8 a).wf = true) x) → l1_7.length ≤ maxLen → ∃ k, standbylaw32_CommitLearns.f k a0_0 a0_1 l0_2 a0_3 a0_4 a1_0 a1_1 a1_2 a1_3 a1_4 a1_5 l1_6 l1_7 = some true
end Go.Proofs.Ytedoloapddmanaa.PB
