/- After any writes and confirmations (at most 60 steps) Backlog is what was admitted less what was confirmed, Age that of the oldest write of which something is missing, and the throttle is in order (the pure side). -/
import Derived.Test.YtppniempndnghaaSThrottleAccounts
import Derived.Test.YtppniempndnghaaThrB
namespace Go.Proofs.Ytppniempndnghaa.Pure
open Go.RowKit Go.Proofs.Ytppniempndnghaa.PA Go.Proofs.YtppniempndnghaaW.PrintWords
theorem ThrottleAccounts : standbylaw33_ThrottleAccounts.Pure := by
  intro a0 a1 st S w0 w1 w2 hw hm
  have r0 : 0 ≤ a0 ∧ a0 ≤ 255 := by simpa [Lit.wf, show IntKind.u8.min = 0 from rfl, show IntKind.u8.max = 255 from rfl] using w0
  have r1 : 0 ≤ a1 ∧ a1 ≤ 255 := by simpa [Lit.wf, show IntKind.u8.min = 0 from rfl, show IntKind.u8.max = 255 from rfl] using w1
  have r2 : 0 ≤ st ∧ st ≤ 255 := by simpa [Lit.wf, show IntKind.u8.min = 0 from rfl, show IntKind.u8.max = 255 from rfl] using w2
  have rS : ∀ x ∈ S, -128 ≤ x ∧ x ≤ 127 := fun x hx => by simpa [Lit.wf, show IntKind.i8.min = -128 from rfl, show IntKind.i8.max = 127 from rfl] using hw x hx
  obtain ⟨o, r, o1, o2, q1, q2, hb⟩ := begin_f a0 a1 r0 r1
  refine ⟨3 * S.length + 302, ?_⟩
  unfold standbylaw33_ThrottleAccounts.f
  rw [hb]
  simp only [Option.bind_some]
  by_cases h : (S.length : Int) > 60
  · rw [if_pos h]
    rw [show 3 * S.length + 302 = (3 * S.length + 301) + 1 from rfl, standbylaw33_ThrottleAccounts.j0, if_pos rfl, if_pos rfl, awake_f _ (by omega)]
    rfl
  · rw [if_neg h]
    rw [show 3 * S.length + 302 = (3 * S.length + 301) + 1 from rfl, standbylaw33_ThrottleAccounts.j0, if_neg (by decide), w64 (x := st) (by omega)]
    exact acc_l0 S (by omega) rS S.length 0 _ o r 0 0 [] st 0 0 [] (by omega) (inv_new o r st ⟨o1, o2⟩ ⟨q1, q2⟩ r2.1) (by omega) (by omega) (by omega) (by omega) (by omega) (by simp) (by simp) (by omega) (by omega) (by omega)
end Go.Proofs.Ytppniempndnghaa.Pure
