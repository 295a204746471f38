/- Write of the throttle returns the throttle, the delay or the error of the reference, for every throttle, time and number of sectors (the pure side). -/
import Derived.Test.YtppniempndnghaaSThrottleWrites
import Derived.Test.YtppniempndnghaaThrW
namespace Go.Proofs.Ytppniempndnghaa.Pure
open Go.RowKit Go.Proofs.Ytppniempndnghaa.PA Go.Proofs.YtppniempndnghaaW.PrintWords
theorem ThrottleWrites : standbylaw33_ThrottleWrites.Pure := by
  intro a0 a1 a2 a3 l now n _ _ _ w3 _ hl _ _
  have hm : l.length ≤ 9223372036854775807 := hl
  have hb : -9223372036854775808 ≤ a3 ∧ a3 ≤ 9223372036854775807 := i64_range w3
  refine ⟨2 * l.length + 206, ?_⟩
  unfold standbylaw33_ThrottleWrites.f standbylaw33_few.f
  simp only [Option.bind_some, decide_eq_true_eq]
  by_cases h : (l.length : Int) ≤ 100
  · rw [if_pos h, write_f _ _ _ _ _ _ _ hm hb _ (by omega), refWrite_f _ _ _ _ _ _ _ hm hb _ (by omega)]
    simp only [Option.bind_some]
    have hlen := wr_len a0 a1 a2 a3 l now n
    rw [same_f _ _ _ _ _ (by omega) _ (by omega)]
    simp only [Option.bind_some, if_true]
    rw [awake_f _ (by omega)]
    rfl
  · rw [if_neg h, awake_f _ (by omega)]
    rfl
end Go.Proofs.Ytppniempndnghaa.Pure
