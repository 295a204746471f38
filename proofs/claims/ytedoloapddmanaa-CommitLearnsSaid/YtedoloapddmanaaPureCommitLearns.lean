/- Learn returns the specified source and messages for all sources and messages (the pure side). -/
import Derived.Test.YtedoloapddmanaaSCommitLearns
import Derived.Test.YtedoloapddmanaaCom2
import Derived.Test.YtedoloapddmanaaCom3
import Derived.Test.YtedoloapddmanaaCom5
namespace Go.Proofs.Ytedoloapddmanaa.Pure
open Go.RowKit Go.Proofs.Ytedoloapddmanaa.PB Go.Proofs.YtedoloapddmanaaW.PrintWords
theorem CommitLearns : standbylaw32_CommitLearns.Pure := by
  intro e s l st ap kd si x2 x3 n me v b _ _ _ _ _ _ _ _ _ _ _ _ _ _ _ _
  refine ⟨6000, ?_⟩
  unfold standbylaw32_CommitLearns.f
  by_cases h : (l.length : Int) > 1100
  · rw [if_pos h, awake_f _ (by omega)]; rfl
  · have hl : l.length ≤ 1100 := by omega
    rw [if_neg h]
    by_cases h1 : (v.length : Int) > 20
    · rw [if_pos h1, awake_f _ (by omega)]; rfl
    rw [if_neg h1]
    by_cases h2 : (b.length : Int) > 100
    · rw [if_pos h2, awake_f _ (by omega)]; rfl
    have hq := learnP_len e s st ap kd si n me l
    rw [if_neg h2, learn_f e s st ap kd si x2 x3 n me l _ _ (by omega) _ (by omega), rlearn_f e s st ap kd si x2 x3 n me l _ _ (by omega) _ (by omega), awake_f _ (by omega)]
    simp only [Option.bind_some, if_true]
    rw [same_f _ _ _ _ _ (by omega) _ (by omega), sameMsgs_f _ (by omega) _ (by omega)]
    simp
end Go.Proofs.Ytedoloapddmanaa.Pure
