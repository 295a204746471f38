/- In a run of at most 60 steps: a message of an older epoch is refused, and a source that is refused offers nothing any more (the pure side). -/
import Derived.Test.YtedoloapddmanaaSCommitRefuses
import Derived.Test.YtedoloapddmanaaComR
namespace Go.Proofs.Ytedoloapddmanaa.Pure
open Go.RowKit Go.Proofs.Ytedoloapddmanaa.PB Go.Proofs.YtedoloapddmanaaW.PrintWords
theorem CommitRefuses : standbylaw32_CommitRefuses.Pure := by
  intro L hw hm
  have hx : ∀ x ∈ L, 0 ≤ x.f1 ∧ x.f1 ≤ 255 := fun x hx => by simpa [Lit.wf, show IntKind.u8.min = 0 from rfl, show IntKind.u8.max = 255 from rfl] using (hw x hx).2
  refine ⟨20000 * L.length + 2000, ?_⟩
  unfold standbylaw32_CommitRefuses.f
  by_cases h : (L.length : Int) > 60
  · rw [if_pos h, awake_f _ (by omega)]; rfl
  · rw [if_neg h, begin_f, Option.bind_some]
    exact refuses_l0 L (by omega) hx L.length 0 (by omega) _ _ _ _ _ _ _ _ _ _ _ _ begin_run _ (by omega)
end Go.Proofs.Ytedoloapddmanaa.Pure
