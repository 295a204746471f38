/- More of what shortens the printed texts. -/
import Derived.Test.YtedoloapddmanaaSh2
namespace Go.Proofs.Ytedoloapddmanaa.PB
open Go.RowKit Go.Proofs.YtedoloapddmanaaW.PrintWords Go.Proofs.YtedoloapddmanaaW.PrintLast Go.Proofs.YtedoloapddmanaaW.PrintMore
set_option linter.unusedVariables false
theorem cf1 {w : World} {a : Addr} {g i0 : Nat} {x v0 : Value} (hne : a.block ≠ g) (h : w.cell? a = some x) : (w.setCell ⟨g, i0, none⟩ v0).cell? a = some x := ((cell_far (p := ⟨g, i0, none⟩) hne _).trans h)
theorem ct8 {w : World} {g : Nat} {t : TypeId} {R : Prop} {v0 v1 v2 v3 v4 v5 v6 v7 : Value} (h : w.heap[g]? = some (.cells #[v0, v1, v2, v3, v4, v5, v6, v7] t (0, 0))) (r : R) : w.cell? ⟨g, 0, none⟩ = some v0 ∧ w.cell? ⟨g, 1, none⟩ = some v1 ∧ w.cell? ⟨g, 2, none⟩ = some v2 ∧ w.cell? ⟨g, 3, none⟩ = some v3 ∧ w.cell? ⟨g, 4, none⟩ = some v4 ∧ w.cell? ⟨g, 5, none⟩ = some v5 ∧ w.cell? ⟨g, 6, none⟩ = some v6 ∧ w.cell? ⟨g, 7, none⟩ = some v7 ∧ R :=
  ⟨(blk_cell h 0).trans rfl, (blk_cell h 1).trans rfl, (blk_cell h 2).trans rfl, (blk_cell h 3).trans rfl, (blk_cell h 4).trans rfl, (blk_cell h 5).trans rfl, (blk_cell h 6).trans rfl, (blk_cell h 7).trans rfl, r⟩
theorem pt5_2_1 {w W0 : World} {g : Nat} {t : TypeId} {x0 x1 x2 x3 x4 v0 : Value} [m0 : Mv w W0] (h : w.heap[g]? = some (.cells #[x0, x1, x2, x3, x4] t (0, 0))) : (W0.setCell ⟨g, 2, none⟩ v0).heap[g]? = some (.cells #[x0, x1, v0, x3, x4] t (0, 0)) := by
  have h0 := blk_put (mK (m := m0) h) 2 v0 (cs' := #[x0, x1, v0, x3, x4]) rfl
  exact h0
theorem pt5_3_1 {w W0 : World} {g : Nat} {t : TypeId} {x0 x1 x2 x3 x4 v0 : Value} [m0 : Mv w W0] (h : w.heap[g]? = some (.cells #[x0, x1, x2, x3, x4] t (0, 0))) : (W0.setCell ⟨g, 3, none⟩ v0).heap[g]? = some (.cells #[x0, x1, x2, v0, x4] t (0, 0)) := by
  have h0 := blk_put (mK (m := m0) h) 3 v0 (cs' := #[x0, x1, x2, v0, x4]) rfl
  exact h0
theorem pt5_4_1 {w W0 : World} {g : Nat} {t : TypeId} {x0 x1 x2 x3 x4 v0 : Value} [m0 : Mv w W0] (h : w.heap[g]? = some (.cells #[x0, x1, x2, x3, x4] t (0, 0))) : (W0.setCell ⟨g, 4, none⟩ v0).heap[g]? = some (.cells #[x0, x1, x2, x3, v0] t (0, 0)) := by
  have h0 := blk_put (mK (m := m0) h) 4 v0 (cs' := #[x0, x1, x2, x3, v0]) rfl
  exact h0
end Go.Proofs.Ytedoloapddmanaa.PB
