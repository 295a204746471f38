/- If in every tick at least Rate sectors are confirmed, or all that remain, the age is never greater than Objective, and Rate Objective is never exceeded by Backlog (at most 60 steps; the pure side). -/
import Derived.Test.YtppniempndnghaaSThrottleKeeps
import Derived.Test.YtppniempndnghaaThrE
namespace Go.Proofs.Ytppniempndnghaa.Pure
open Go.RowKit Go.Proofs.Ytppniempndnghaa.PA Go.Proofs.YtppniempndnghaaW.PrintWords
theorem ThrottleKeeps : standbylaw33_ThrottleKeeps.Pure := by
  intro a0 a1 S w0 w1 hw hm
  have r0 : 0 ≤ a0 ∧ a0 ≤ 255 := by simpa [Lit.wf, show IntKind.u8.min = 0 from rfl, show IntKind.u8.max = 255 from rfl] using w0
  have r1 : 0 ≤ a1 ∧ a1 ≤ 255 := by simpa [Lit.wf, show IntKind.u8.min = 0 from rfl, show IntKind.u8.max = 255 from rfl] using w1
  have rS : ∀ x ∈ S, 0 ≤ x ∧ x ≤ 65535 := fun x hx => by simpa [Lit.wf, show IntKind.u16.min = 0 from rfl, show IntKind.u16.max = 65535 from rfl] using hw x hx
  obtain ⟨o, r, o1, o2, q1, q2, hb⟩ := begin_f a0 a1 r0 r1
  have hro := ro_bound o1 (show o ≤ 1073741824 by omega) q1 (show r ≤ 4096 by omega)
  refine ⟨6 * S.length + 302, ?_⟩
  unfold standbylaw33_ThrottleKeeps.f
  rw [hb]
  simp only [Option.bind_some]
  by_cases h : (S.length : Int) > 60
  · rw [if_pos h]
    rw [show 6 * S.length + 302 = (6 * S.length + 301) + 1 from rfl, standbylaw33_ThrottleKeeps.j0, if_pos rfl, if_pos rfl, awake_f _ (by omega)]
    rfl
  · rw [if_neg h]
    rw [show 6 * S.length + 302 = (6 * S.length + 301) + 1 from rfl, standbylaw33_ThrottleKeeps.j0, if_neg (by decide)]
    refine keep_good S (by omega) rS S.length 0 (by omega) _ (by omega) o r 0 0 [] 0 0 0 [] ⟨inv_new o r 0 ⟨o1, o2⟩ ⟨q1, q2⟩ (Int.le_refl _), by omega, by omega, by omega, by omega, by omega, by simp, by omega, fun w hw => by simp at hw, by simp, ⟨o1, o2⟩, ⟨q1, q2⟩⟩
end Go.Proofs.Ytppniempndnghaa.Pure
