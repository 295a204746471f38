/- New and Check of the throttle tell what the reference tells, for every objective and rate and every throttle (the pure side). -/
import Derived.Test.YtppniempndnghaaSThrottleMakes
import Derived.Test.YtppniempndnghaaThr
namespace Go.Proofs.Ytppniempndnghaa.Pure
open Go.RowKit Go.Proofs.Ytppniempndnghaa.PA Go.Proofs.YtppniempndnghaaW.PrintWords
theorem ThrottleMakes : standbylaw33_ThrottleMakes.Pure := by
  intro a0 a1 a2 a3 l o r _ _ _ w3 _ hl _ _
  have hm : l.length ≤ 9223372036854775807 := hl
  have hb : -9223372036854775808 ≤ a3 ∧ a3 ≤ 9223372036854775807 := i64_range w3
  refine ⟨2 * l.length + 106, ?_⟩
  unfold standbylaw33_ThrottleMakes.f standbylaw33_few.f
  simp only [Option.bind_some, decide_eq_true_eq]
  by_cases h : (l.length : Int) ≤ 100
  · rw [if_pos h, new_f, refNew_f]
    by_cases h1 : 1 ≤ o ∧ o ≤ 1073741824 ∧ 1 ≤ r ∧ r ≤ 4096
    · rw [if_pos h1]
      simp only [Option.bind_some]
      rw [same_f _ _ _ _ _ (by simp) _ (by simp)]
      simp only [Option.bind_some, if_true]
      rw [check_f _ _ _ _ _ hm hb _ (by omega), refCheck_f _ _ _ _ _ hm hb _ (by omega), awake_f _ (by omega)]
      simp
    · rw [if_neg h1]
      simp only [Option.bind_some]
      rw [same_f _ _ _ _ _ (by simp) _ (by simp)]
      simp only [Option.bind_some, if_true]
      rw [check_f _ _ _ _ _ hm hb _ (by omega), refCheck_f _ _ _ _ _ hm hb _ (by omega), awake_f _ (by omega)]
      simp
  · rw [if_neg h, awake_f _ (by omega)]
    rfl
end Go.Proofs.Ytppniempndnghaa.Pure
