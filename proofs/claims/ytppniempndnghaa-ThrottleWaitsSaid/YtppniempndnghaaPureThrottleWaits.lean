/- A write that has to wait is admitted after the delay if Rate sectors are confirmed in each tick, and not before (at most 40 writes; the pure side). -/
import Derived.Test.YtppniempndnghaaSThrottleWaits
import Derived.Test.YtppniempndnghaaThrF
namespace Go.Proofs.Ytppniempndnghaa.Pure
open Go.RowKit Go.Proofs.Ytppniempndnghaa.PA Go.Proofs.YtppniempndnghaaW.PrintWords
theorem ThrottleWaits : standbylaw33_ThrottleWaits.Pure := by
  intro a0 a1 S w0 w1 hw hm
  have r0 : 0 ≤ a0 ∧ a0 ≤ 255 := by simpa [Lit.wf, show IntKind.u8.min = 0 from rfl, show IntKind.u8.max = 255 from rfl] using w0
  have r1 : 0 ≤ a1 ∧ a1 ≤ 255 := by simpa [Lit.wf, show IntKind.u8.min = 0 from rfl, show IntKind.u8.max = 255 from rfl] using w1
  have rS : ∀ x ∈ S, 0 ≤ x ∧ x ≤ 255 := fun x hx => by simpa [Lit.wf, show IntKind.u8.min = 0 from rfl, show IntKind.u8.max = 255 from rfl] using hw x hx
  obtain ⟨o, r, o1, o2, q1, q2, hb⟩ := begin_f a0 a1 r0 r1
  have hro := ro_small ⟨o1, o2⟩ ⟨q1, q2⟩
  refine ⟨230 * S.length + 302, ?_⟩
  unfold standbylaw33_ThrottleWaits.f
  rw [hb]
  simp only [Option.bind_some]
  by_cases h : (S.length : Int) > 40
  · rw [if_pos h]
    rw [show 230 * S.length + 302 = (230 * S.length + 301) + 1 from rfl, standbylaw33_ThrottleWaits.j0, if_pos rfl, if_pos rfl, awake_f _ (by omega)]
    rfl
  · rw [if_neg h]
    rw [show 230 * S.length + 302 = (230 * S.length + 301) + 1 from rfl, standbylaw33_ThrottleWaits.j0, if_neg (by decide)]
    exact waits_good S (by omega) rS S.length 0 (by omega) _ (by omega) o r 0 0 [] 0 0 0 [] ⟨inv_new o r 0 ⟨o1, o2⟩ ⟨q1, q2⟩ (Int.le_refl _), by omega, by omega, by omega, by omega, by omega, by simp, by omega, ⟨o1, o2⟩, ⟨q1, q2⟩⟩
end Go.Proofs.Ytppniempndnghaa.Pure
