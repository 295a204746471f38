/- More of what shortens the printed texts. -/
import Derived.Test.YtedoloapddmanaaSh
namespace Go.Proofs.Ytedoloapddmanaa.PB
open Go.RowKit Go.Proofs.YtedoloapddmanaaW.PrintWords Go.Proofs.YtedoloapddmanaaW.PrintLast Go.Proofs.YtedoloapddmanaaW.PrintMore
set_option linter.unusedVariables false
def bl : Nat → Nat → List Bool
  | 0, _ => []
  | n + 1, m => (m % 2 == 1) :: bl n (m / 2)
/-- The truth values that the number's digits tell. -/
abbrev bs (n m : Nat) : Array Bool := (bl n m).toArray
theorem cf12 {w : World} {a : Addr} {g i0 i1 i2 i3 i4 i5 i6 i7 i8 i9 i10 i11 : Nat} {x v0 v1 v2 v3 v4 v5 v6 v7 v8 v9 v10 v11 : Value} (hne : a.block ≠ g) (h : w.cell? a = some x) : ((((((((((((w.setCell ⟨g, i0, none⟩ v0).setCell ⟨g, i1, none⟩ v1).setCell ⟨g, i2, none⟩ v2).setCell ⟨g, i3, none⟩ v3).setCell ⟨g, i4, none⟩ v4).setCell ⟨g, i5, none⟩ v5).setCell ⟨g, i6, none⟩ v6).setCell ⟨g, i7, none⟩ v7).setCell ⟨g, i8, none⟩ v8).setCell ⟨g, i9, none⟩ v9).setCell ⟨g, i10, none⟩ v10).setCell ⟨g, i11, none⟩ v11).cell? a = some x := ((cell_far (p := ⟨g, i11, none⟩) hne _).trans ((cell_far (p := ⟨g, i10, none⟩) hne _).trans ((cell_far (p := ⟨g, i9, none⟩) hne _).trans ((cell_far (p := ⟨g, i8, none⟩) hne _).trans ((cell_far (p := ⟨g, i7, none⟩) hne _).trans ((cell_far (p := ⟨g, i6, none⟩) hne _).trans ((cell_far (p := ⟨g, i5, none⟩) hne _).trans ((cell_far (p := ⟨g, i4, none⟩) hne _).trans ((cell_far (p := ⟨g, i3, none⟩) hne _).trans ((cell_far (p := ⟨g, i2, none⟩) hne _).trans ((cell_far (p := ⟨g, i1, none⟩) hne _).trans ((cell_far (p := ⟨g, i0, none⟩) hne _).trans h))))))))))))
theorem cf4 {w : World} {a : Addr} {g i0 i1 i2 i3 : Nat} {x v0 v1 v2 v3 : Value} (hne : a.block ≠ g) (h : w.cell? a = some x) : ((((w.setCell ⟨g, i0, none⟩ v0).setCell ⟨g, i1, none⟩ v1).setCell ⟨g, i2, none⟩ v2).setCell ⟨g, i3, none⟩ v3).cell? a = some x := ((cell_far (p := ⟨g, i3, none⟩) hne _).trans ((cell_far (p := ⟨g, i2, none⟩) hne _).trans ((cell_far (p := ⟨g, i1, none⟩) hne _).trans ((cell_far (p := ⟨g, i0, none⟩) hne _).trans h))))
theorem cf5 {w : World} {a : Addr} {g i0 i1 i2 i3 i4 : Nat} {x v0 v1 v2 v3 v4 : Value} (hne : a.block ≠ g) (h : w.cell? a = some x) : (((((w.setCell ⟨g, i0, none⟩ v0).setCell ⟨g, i1, none⟩ v1).setCell ⟨g, i2, none⟩ v2).setCell ⟨g, i3, none⟩ v3).setCell ⟨g, i4, none⟩ v4).cell? a = some x := ((cell_far (p := ⟨g, i4, none⟩) hne _).trans ((cell_far (p := ⟨g, i3, none⟩) hne _).trans ((cell_far (p := ⟨g, i2, none⟩) hne _).trans ((cell_far (p := ⟨g, i1, none⟩) hne _).trans ((cell_far (p := ⟨g, i0, none⟩) hne _).trans h)))))
theorem ct12 {w : World} {g : Nat} {t : TypeId} {R : Prop} {v0 v1 v2 v3 v4 v5 v6 v7 v8 v9 v10 v11 : Value} (h : w.heap[g]? = some (.cells #[v0, v1, v2, v3, v4, v5, v6, v7, v8, v9, v10, v11] t (0, 0))) (r : R) : w.cell? ⟨g, 0, none⟩ = some v0 ∧ w.cell? ⟨g, 1, none⟩ = some v1 ∧ w.cell? ⟨g, 2, none⟩ = some v2 ∧ w.cell? ⟨g, 3, none⟩ = some v3 ∧ w.cell? ⟨g, 4, none⟩ = some v4 ∧ w.cell? ⟨g, 5, none⟩ = some v5 ∧ w.cell? ⟨g, 6, none⟩ = some v6 ∧ w.cell? ⟨g, 7, none⟩ = some v7 ∧ w.cell? ⟨g, 8, none⟩ = some v8 ∧ w.cell? ⟨g, 9, none⟩ = some v9 ∧ w.cell? ⟨g, 10, none⟩ = some v10 ∧ w.cell? ⟨g, 11, none⟩ = some v11 ∧ R :=
  ⟨(blk_cell h 0).trans rfl, (blk_cell h 1).trans rfl, (blk_cell h 2).trans rfl, (blk_cell h 3).trans rfl, (blk_cell h 4).trans rfl, (blk_cell h 5).trans rfl, (blk_cell h 6).trans rfl, (blk_cell h 7).trans rfl, (blk_cell h 8).trans rfl, (blk_cell h 9).trans rfl, (blk_cell h 10).trans rfl, (blk_cell h 11).trans rfl, r⟩
theorem ct4 {w : World} {g : Nat} {t : TypeId} {R : Prop} {v0 v1 v2 v3 : Value} (h : w.heap[g]? = some (.cells #[v0, v1, v2, v3] t (0, 0))) (r : R) : w.cell? ⟨g, 0, none⟩ = some v0 ∧ w.cell? ⟨g, 1, none⟩ = some v1 ∧ w.cell? ⟨g, 2, none⟩ = some v2 ∧ w.cell? ⟨g, 3, none⟩ = some v3 ∧ R :=
  ⟨(blk_cell h 0).trans rfl, (blk_cell h 1).trans rfl, (blk_cell h 2).trans rfl, (blk_cell h 3).trans rfl, r⟩
theorem ct5 {w : World} {g : Nat} {t : TypeId} {R : Prop} {v0 v1 v2 v3 v4 : Value} (h : w.heap[g]? = some (.cells #[v0, v1, v2, v3, v4] t (0, 0))) (r : R) : w.cell? ⟨g, 0, none⟩ = some v0 ∧ w.cell? ⟨g, 1, none⟩ = some v1 ∧ w.cell? ⟨g, 2, none⟩ = some v2 ∧ w.cell? ⟨g, 3, none⟩ = some v3 ∧ w.cell? ⟨g, 4, none⟩ = some v4 ∧ R :=
  ⟨(blk_cell h 0).trans rfl, (blk_cell h 1).trans rfl, (blk_cell h 2).trans rfl, (blk_cell h 3).trans rfl, (blk_cell h 4).trans rfl, r⟩
theorem pt4_2_1 {w W0 : World} {g : Nat} {t : TypeId} {x0 x1 x2 x3 v0 : Value} [m0 : Mv w W0] (h : w.heap[g]? = some (.cells #[x0, x1, x2, x3] t (0, 0))) : (W0.setCell ⟨g, 2, none⟩ v0).heap[g]? = some (.cells #[x0, x1, v0, x3] t (0, 0)) := by
  have h0 := blk_put (mK (m := m0) h) 2 v0 (cs' := #[x0, x1, v0, x3]) rfl
  exact h0
theorem pt4_3_1 {w W0 : World} {g : Nat} {t : TypeId} {x0 x1 x2 x3 v0 : Value} [m0 : Mv w W0] (h : w.heap[g]? = some (.cells #[x0, x1, x2, x3] t (0, 0))) : (W0.setCell ⟨g, 3, none⟩ v0).heap[g]? = some (.cells #[x0, x1, x2, v0] t (0, 0)) := by
  have h0 := blk_put (mK (m := m0) h) 3 v0 (cs' := #[x0, x1, x2, v0]) rfl
  exact h0
theorem pt5_0_1 {w W0 : World} {g : Nat} {t : TypeId} {x0 x1 x2 x3 x4 v0 : Value} [m0 : Mv w W0] (h : w.heap[g]? = some (.cells #[x0, x1, x2, x3, x4] t (0, 0))) : (W0.setCell ⟨g, 0, none⟩ v0).heap[g]? = some (.cells #[v0, x1, x2, x3, x4] t (0, 0)) := by
  have h0 := blk_put (mK (m := m0) h) 0 v0 (cs' := #[v0, x1, x2, x3, x4]) rfl
  exact h0
theorem sA {α : Type} (l : List α) (i : Nat) (a : α) : l.toArray.setIfInBounds i a = (l.set i a).toArray := List.setIfInBounds_toArray _ _ _
theorem sB {α : Type} (x : α) (l : List α) (a : α) : (x :: l).set 0 a = a :: l := List.set_cons_zero
theorem sC {α : Type} (x : α) (l : List α) (n : Nat) (a : α) : (x :: l).set (n + 1) a = x :: l.set n a := List.set_cons_succ
theorem kC {w w' : World} {B : Nat} {a : Addr} {v : Value} (hb : Below w.heap.size w w') (h : w.cell? a = some v) : w'.cell? a = some v := (hb.cell (World.block_lt_of_cell? _ _ h)).trans h
end Go.Proofs.Ytedoloapddmanaa.PB
