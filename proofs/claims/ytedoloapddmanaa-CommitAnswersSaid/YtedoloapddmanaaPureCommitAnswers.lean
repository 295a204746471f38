/- Answer returns the specified target and messages for all targets and messages (the pure side). -/
import Derived.Test.YtedoloapddmanaaSCommitAnswers
import Derived.Test.YtedoloapddmanaaCom2
import Derived.Test.YtedoloapddmanaaCom3
import Derived.Test.YtedoloapddmanaaCom7
namespace Go.Proofs.Ytedoloapddmanaa.Pure
open Go.RowKit Go.Proofs.Ytedoloapddmanaa.PB Go.Proofs.YtedoloapddmanaaW.PrintWords
theorem CommitAnswers : standbylaw32_CommitAnswers.Pure := by
  intro e s st ap kd x1 si x3 x4 me v b _ _ _ _ _ _ _ _ _ _ _ _ _ _
  refine ⟨6000, ?_⟩
  unfold standbylaw32_CommitAnswers.f
  by_cases h1 : (v.length : Int) > 20
  · rw [if_pos h1, awake_f _ (by omega)]; rfl
  rw [if_neg h1]
  by_cases h2 : (b.length : Int) > 100
  · rw [if_pos h2, awake_f _ (by omega)]; rfl
  have hq := answerP_len e s st ap kd si me
  rw [if_neg h2, answer_f e s st ap kd x1 si x3 x4 me _ _ _ (by omega), ranswer_f e s st ap kd x1 si x3 x4 me _ _ _ (by omega), awake_f _ (by omega)]
  simp only [Option.bind_some, if_true, beq_self_eq_true, Bool.and_self]
  rw [sameMsgs_f _ (by omega) _ (by omega)]
  simp
end Go.Proofs.Ytedoloapddmanaa.Pure
