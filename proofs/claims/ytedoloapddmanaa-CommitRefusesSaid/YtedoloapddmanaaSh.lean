/- What shortens the printed texts: a world behind draws, new blocks and writes to new blocks; runs of writes. -/
import Derived.Test.YtedoloapddmanaaPBx0
namespace Go.Proofs.Ytedoloapddmanaa.PB
open Go.RowKit Go.Proofs.YtedoloapddmanaaW.PrintWords Go.Proofs.YtedoloapddmanaaW.PrintLast Go.Proofs.YtedoloapddmanaaW.PrintMore
set_option linter.unusedVariables false
/-- W is w behind nothing but draws and new blocks. -/
class Mv (w : outParam World) (W : World) : Prop where
  out : Below w.heap.size w W
instance (priority := low) mv0 (w : World) : Mv w w := ⟨Below.refl _ _⟩
instance mv1 (w W : World) (o : Obj) [h : Mv w W] : Mv w (W.alloc o) := ⟨below_alloc h.out o⟩
instance mv2 (w W : World) [h : Mv w W] : Mv w W.drew := ⟨below_drew1 h.out⟩
instance mv3 (w W : World) (n : Nat) [h : Mv w W] : Mv w (W.drewN n) := ⟨pw_below_drewN h.out n⟩
theorem mK {w W : World} [m : Mv w W] {g : Nat} {o : Obj} (h : w.heap[g]? = some o) : W.heap[g]? = some o := blk_below h m.out
theorem mB {w W : World} [m : Mv w W] {B : Nat} {w0 : World} (h : Below B w0 w) (hB : B ≤ w.heap.size) : Below B w0 W := h.trans (m.out.mono hB)
section
variable {α : Type} {d : Kd α} {e base : Nat} {ok : Nat → Prop} {v : Value} {xs : List α} {w W : World} [m : Mv w W]
theorem mR (h : Kd.R d e w base ok v xs) : Kd.R d e W base ok v xs := Kd.R_below h m.out
theorem mQ (h : Kd.Q d e w base ok v xs) : Kd.Q d e W base ok v xs := Kd.Q_below h m.out
theorem mV (h : Kd.V d e w base ok v xs) : Kd.V d e W base ok v xs := Kd.V_below h m.out
end
/-- g lies at or behind B. -/
class Ge (B g : Nat) : Prop where
  out : B ≤ g
/-- W is w behind draws, new blocks and writes to blocks at or behind B. -/
class Ms (B : Nat) (w : outParam World) (W : World) : Prop where
  bel : ∀ w0 : World, w0.heap.size = B → Below w0.heap.size w0 w → Below w0.heap.size w0 W
  kep : ∀ (w0 : World) (S : Nat → Prop), w0.heap.size = B → Kept w0 w S → Kept w0 W S
instance (priority := low) ms0 (B : Nat) (w : World) : Ms B w w := ⟨fun _ _ h => h, fun _ _ _ h => h⟩
instance ms1 (B : Nat) (w W : World) (o : Obj) [h : Ms B w W] : Ms B w (W.alloc o) := ⟨fun w0 e k => below_alloc (h.bel w0 e k) o, fun w0 S e k => Kept.alloc (h.kep w0 S e k) o⟩
instance ms2 (B : Nat) (w W : World) [h : Ms B w W] : Ms B w W.drew := ⟨fun w0 e k => below_drew1 (h.bel w0 e k), fun w0 S e k => Kept.drew (h.kep w0 S e k)⟩
instance ms3 (B : Nat) (w W : World) (n : Nat) [h : Ms B w W] : Ms B w (W.drewN n) := ⟨fun w0 e k => pw_below_drewN (h.bel w0 e k) n, fun w0 S e k => Kept.drewN (h.kep w0 S e k) n⟩
instance ms4 (B : Nat) (w W : World) (g i : Nat) (v : Value) [h : Ms B w W] [hg : Ge B g] : Ms B w (W.setCell ⟨g, i, none⟩ v) := ⟨fun w0 e k => below_set (h.bel w0 e k) (e ▸ hg.out), fun w0 S e k => Kept.setCell (h.kep w0 S e k) (.inr (e ▸ hg.out)) v⟩
theorem kK {w0 w W : World} {S : Nat → Prop} [m : Ms w0.heap.size w W] (h : Kept w0 w S) : Kept w0 W S := m.kep w0 S rfl h
theorem kB {w0 w W : World} [m : Ms w0.heap.size w W] (h : Below w0.heap.size w0 w) : Below w0.heap.size w0 W := m.bel w0 rfl h
theorem kS {w0 w W : World} {S : Nat → Prop} [m : Ms w0.heap.size w W] (h : Kept w0 w S) : w0.heap.size ≤ W.heap.size := (m.kep w0 S rfl h).1
theorem kZ {w0 w W : World} [m : Ms w0.heap.size w W] (h : Below w0.heap.size w0 w) : w0.heap.size ≤ W.heap.size := below_size (m.bel w0 rfl h)
theorem fr {w W : World} [m : Mv w W] {g : Nat} {t : TypeId} {cs : Array Value} {p : Addr} {u : Value} (h : w.heap[g]? = some (.cells cs t (0, 0))) (hp : g ≠ p.block) : (W.setCell p u).heap[g]? = some (.cells cs t (0, 0)) := blk_far (mK h) hp u
section
variable {α : Type} {d : Kd α} {e base : Nat} {ok : Nat → Prop} {v : Value} {xs : List α} {w W w' : World} [m : Mv w W]
theorem tR (h : Aside0 (Kd.R d e w base ok v xs)) (hb : Below W.heap.size W w') : Aside0 (Kd.R d e w' base ok v xs) := ⟨Kd.R_below (mR h.out) hb⟩
theorem tQ (h : Aside0 (Kd.Q d e w base ok v xs)) (hb : Below W.heap.size W w') : Aside0 (Kd.Q d e w' base ok v xs) := ⟨Kd.Q_below (mQ h.out) hb⟩
theorem tV (h : Aside0 (Kd.V d e w base ok v xs)) (hb : Below W.heap.size W w') : Aside0 (Kd.V d e w' base ok v xs) := ⟨Kd.V_below (mV h.out) hb⟩
theorem tK {g : Nat} {o : Obj} (h : Aside0 (w.heap[g]? = some o)) (hb : Below W.heap.size W w') : Aside0 (w'.heap[g]? = some o) := ⟨blk_below (mK h.out) hb⟩
theorem nL {g g' : Nat} {o : Obj} (h : Aside0 (w.heap[g]? = some o)) (hg : g' = W.heap.size) : Aside0 (g ≠ g') := ⟨by rw [hg]; exact Nat.ne_of_lt (blk_lt (mK h.out))⟩
theorem nG {g g' : Nat} {o : Obj} (h : Aside0 (w.heap[g]? = some o)) (hg : g' = W.heap.size) : Aside0 (g' ≠ g) := ⟨by rw [hg]; exact Nat.ne_of_gt (blk_lt (mK h.out))⟩
end
theorem tE {w0 w W w' : World} {S : Nat → Prop} [m : Ms w0.heap.size w W] (h : Aside0 (Kept w0 w S)) (hb : Below W.heap.size W w') : Aside0 (Kept w0 w' S) := ⟨Kept.below (kK h.out) hb⟩
theorem tB {w0 w W w' : World} [m : Ms w0.heap.size w W] (h : Aside0 (Below w0.heap.size w0 w)) (hb : Below W.heap.size W w') : Aside0 (Below w0.heap.size w0 w') := ⟨below_step (kB h.out) hb⟩
theorem gS {w0 w W : World} {S : Nat → Prop} {g : Nat} [m : Ms w0.heap.size w W] (h : Aside0 (Kept w0 w S)) (hg : g = W.heap.size) : Ge w0.heap.size g := ⟨by rw [hg]; exact kS h.out⟩
theorem gZ {w0 w W : World} {g : Nat} [m : Ms w0.heap.size w W] (h : Aside0 (Below w0.heap.size w0 w)) (hg : g = W.heap.size) : Ge w0.heap.size g := ⟨by rw [hg]; exact kZ h.out⟩
theorem cz12 {w : World} {g : Nat} {t : TypeId} {v0 v1 v2 v3 v4 v5 v6 v7 v8 v9 v10 v11 : Value} (h : w.heap[g]? = some (.cells #[v0, v1, v2, v3, v4, v5, v6, v7, v8, v9, v10, v11] t (0, 0))) : w.cell? ⟨g, 0, none⟩ = some v0 ∧ w.cell? ⟨g, 1, none⟩ = some v1 ∧ w.cell? ⟨g, 2, none⟩ = some v2 ∧ w.cell? ⟨g, 3, none⟩ = some v3 ∧ w.cell? ⟨g, 4, none⟩ = some v4 ∧ w.cell? ⟨g, 5, none⟩ = some v5 ∧ w.cell? ⟨g, 6, none⟩ = some v6 ∧ w.cell? ⟨g, 7, none⟩ = some v7 ∧ w.cell? ⟨g, 8, none⟩ = some v8 ∧ w.cell? ⟨g, 9, none⟩ = some v9 ∧ w.cell? ⟨g, 10, none⟩ = some v10 ∧ w.cell? ⟨g, 11, none⟩ = some v11 :=
  ⟨(blk_cell h 0).trans rfl, (blk_cell h 1).trans rfl, (blk_cell h 2).trans rfl, (blk_cell h 3).trans rfl, (blk_cell h 4).trans rfl, (blk_cell h 5).trans rfl, (blk_cell h 6).trans rfl, (blk_cell h 7).trans rfl, (blk_cell h 8).trans rfl, (blk_cell h 9).trans rfl, (blk_cell h 10).trans rfl, (blk_cell h 11).trans rfl⟩
theorem cz4 {w : World} {g : Nat} {t : TypeId} {v0 v1 v2 v3 : Value} (h : w.heap[g]? = some (.cells #[v0, v1, v2, v3] t (0, 0))) : w.cell? ⟨g, 0, none⟩ = some v0 ∧ w.cell? ⟨g, 1, none⟩ = some v1 ∧ w.cell? ⟨g, 2, none⟩ = some v2 ∧ w.cell? ⟨g, 3, none⟩ = some v3 :=
  ⟨(blk_cell h 0).trans rfl, (blk_cell h 1).trans rfl, (blk_cell h 2).trans rfl, (blk_cell h 3).trans rfl⟩
theorem cz5 {w : World} {g : Nat} {t : TypeId} {v0 v1 v2 v3 v4 : Value} (h : w.heap[g]? = some (.cells #[v0, v1, v2, v3, v4] t (0, 0))) : w.cell? ⟨g, 0, none⟩ = some v0 ∧ w.cell? ⟨g, 1, none⟩ = some v1 ∧ w.cell? ⟨g, 2, none⟩ = some v2 ∧ w.cell? ⟨g, 3, none⟩ = some v3 ∧ w.cell? ⟨g, 4, none⟩ = some v4 :=
  ⟨(blk_cell h 0).trans rfl, (blk_cell h 1).trans rfl, (blk_cell h 2).trans rfl, (blk_cell h 3).trans rfl, (blk_cell h 4).trans rfl⟩
theorem cz8 {w : World} {g : Nat} {t : TypeId} {v0 v1 v2 v3 v4 v5 v6 v7 : Value} (h : w.heap[g]? = some (.cells #[v0, v1, v2, v3, v4, v5, v6, v7] t (0, 0))) : w.cell? ⟨g, 0, none⟩ = some v0 ∧ w.cell? ⟨g, 1, none⟩ = some v1 ∧ w.cell? ⟨g, 2, none⟩ = some v2 ∧ w.cell? ⟨g, 3, none⟩ = some v3 ∧ w.cell? ⟨g, 4, none⟩ = some v4 ∧ w.cell? ⟨g, 5, none⟩ = some v5 ∧ w.cell? ⟨g, 6, none⟩ = some v6 ∧ w.cell? ⟨g, 7, none⟩ = some v7 :=
  ⟨(blk_cell h 0).trans rfl, (blk_cell h 1).trans rfl, (blk_cell h 2).trans rfl, (blk_cell h 3).trans rfl, (blk_cell h 4).trans rfl, (blk_cell h 5).trans rfl, (blk_cell h 6).trans rfl, (blk_cell h 7).trans rfl⟩
theorem rf12 {α : Type} {d : Kd α} {e base : Nat} {ok : Nat → Prop} {v : Value} {xs : List α} {w : World} (g i : Nat) (h : Kd.R d e w base ok v xs) (hok : ∀ k, ok k → k ≠ g) (v0 v1 v2 v3 v4 v5 v6 v7 v8 v9 v10 v11 : Value) : Kd.R d e ((((((((((((w.setCell ⟨g, i + 0, none⟩ v0).setCell ⟨g, i + 1, none⟩ v1).setCell ⟨g, i + 2, none⟩ v2).setCell ⟨g, i + 3, none⟩ v3).setCell ⟨g, i + 4, none⟩ v4).setCell ⟨g, i + 5, none⟩ v5).setCell ⟨g, i + 6, none⟩ v6).setCell ⟨g, i + 7, none⟩ v7).setCell ⟨g, i + 8, none⟩ v8).setCell ⟨g, i + 9, none⟩ v9).setCell ⟨g, i + 10, none⟩ v10).setCell ⟨g, i + 11, none⟩ v11) base ok v xs := (Kd.R_far (p := ⟨g, i + 11, none⟩) (Kd.R_far (p := ⟨g, i + 10, none⟩) (Kd.R_far (p := ⟨g, i + 9, none⟩) (Kd.R_far (p := ⟨g, i + 8, none⟩) (Kd.R_far (p := ⟨g, i + 7, none⟩) (Kd.R_far (p := ⟨g, i + 6, none⟩) (Kd.R_far (p := ⟨g, i + 5, none⟩) (Kd.R_far (p := ⟨g, i + 4, none⟩) (Kd.R_far (p := ⟨g, i + 3, none⟩) (Kd.R_far (p := ⟨g, i + 2, none⟩) (Kd.R_far (p := ⟨g, i + 1, none⟩) (Kd.R_far (p := ⟨g, i + 0, none⟩) h hok v0) hok v1) hok v2) hok v3) hok v4) hok v5) hok v6) hok v7) hok v8) hok v9) hok v10) hok v11)
theorem rf2 {α : Type} {d : Kd α} {e base : Nat} {ok : Nat → Prop} {v : Value} {xs : List α} {w : World} (g i : Nat) (h : Kd.R d e w base ok v xs) (hok : ∀ k, ok k → k ≠ g) (v0 v1 : Value) : Kd.R d e ((w.setCell ⟨g, i + 0, none⟩ v0).setCell ⟨g, i + 1, none⟩ v1) base ok v xs := (Kd.R_far (p := ⟨g, i + 1, none⟩) (Kd.R_far (p := ⟨g, i + 0, none⟩) h hok v0) hok v1)
theorem rf3 {α : Type} {d : Kd α} {e base : Nat} {ok : Nat → Prop} {v : Value} {xs : List α} {w : World} (g i : Nat) (h : Kd.R d e w base ok v xs) (hok : ∀ k, ok k → k ≠ g) (v0 v1 v2 : Value) : Kd.R d e (((w.setCell ⟨g, i + 0, none⟩ v0).setCell ⟨g, i + 1, none⟩ v1).setCell ⟨g, i + 2, none⟩ v2) base ok v xs := (Kd.R_far (p := ⟨g, i + 2, none⟩) (Kd.R_far (p := ⟨g, i + 1, none⟩) (Kd.R_far (p := ⟨g, i + 0, none⟩) h hok v0) hok v1) hok v2)
theorem rf4 {α : Type} {d : Kd α} {e base : Nat} {ok : Nat → Prop} {v : Value} {xs : List α} {w : World} (g i : Nat) (h : Kd.R d e w base ok v xs) (hok : ∀ k, ok k → k ≠ g) (v0 v1 v2 v3 : Value) : Kd.R d e ((((w.setCell ⟨g, i + 0, none⟩ v0).setCell ⟨g, i + 1, none⟩ v1).setCell ⟨g, i + 2, none⟩ v2).setCell ⟨g, i + 3, none⟩ v3) base ok v xs := (Kd.R_far (p := ⟨g, i + 3, none⟩) (Kd.R_far (p := ⟨g, i + 2, none⟩) (Kd.R_far (p := ⟨g, i + 1, none⟩) (Kd.R_far (p := ⟨g, i + 0, none⟩) h hok v0) hok v1) hok v2) hok v3)
theorem rf5 {α : Type} {d : Kd α} {e base : Nat} {ok : Nat → Prop} {v : Value} {xs : List α} {w : World} (g i : Nat) (h : Kd.R d e w base ok v xs) (hok : ∀ k, ok k → k ≠ g) (v0 v1 v2 v3 v4 : Value) : Kd.R d e (((((w.setCell ⟨g, i + 0, none⟩ v0).setCell ⟨g, i + 1, none⟩ v1).setCell ⟨g, i + 2, none⟩ v2).setCell ⟨g, i + 3, none⟩ v3).setCell ⟨g, i + 4, none⟩ v4) base ok v xs := (Kd.R_far (p := ⟨g, i + 4, none⟩) (Kd.R_far (p := ⟨g, i + 3, none⟩) (Kd.R_far (p := ⟨g, i + 2, none⟩) (Kd.R_far (p := ⟨g, i + 1, none⟩) (Kd.R_far (p := ⟨g, i + 0, none⟩) h hok v0) hok v1) hok v2) hok v3) hok v4)
theorem rf8 {α : Type} {d : Kd α} {e base : Nat} {ok : Nat → Prop} {v : Value} {xs : List α} {w : World} (g i : Nat) (h : Kd.R d e w base ok v xs) (hok : ∀ k, ok k → k ≠ g) (v0 v1 v2 v3 v4 v5 v6 v7 : Value) : Kd.R d e ((((((((w.setCell ⟨g, i + 0, none⟩ v0).setCell ⟨g, i + 1, none⟩ v1).setCell ⟨g, i + 2, none⟩ v2).setCell ⟨g, i + 3, none⟩ v3).setCell ⟨g, i + 4, none⟩ v4).setCell ⟨g, i + 5, none⟩ v5).setCell ⟨g, i + 6, none⟩ v6).setCell ⟨g, i + 7, none⟩ v7) base ok v xs := (Kd.R_far (p := ⟨g, i + 7, none⟩) (Kd.R_far (p := ⟨g, i + 6, none⟩) (Kd.R_far (p := ⟨g, i + 5, none⟩) (Kd.R_far (p := ⟨g, i + 4, none⟩) (Kd.R_far (p := ⟨g, i + 3, none⟩) (Kd.R_far (p := ⟨g, i + 2, none⟩) (Kd.R_far (p := ⟨g, i + 1, none⟩) (Kd.R_far (p := ⟨g, i + 0, none⟩) h hok v0) hok v1) hok v2) hok v3) hok v4) hok v5) hok v6) hok v7)
theorem vf12 {α : Type} {d : Kd α} {e base : Nat} {ok : Nat → Prop} {v : Value} {xs : List α} {w : World} (g i : Nat) (h : Kd.V d e w base ok v xs) (hok : ∀ k, ok k → k ≠ g) (v0 v1 v2 v3 v4 v5 v6 v7 v8 v9 v10 v11 : Value) : Kd.V d e ((((((((((((w.setCell ⟨g, i + 0, none⟩ v0).setCell ⟨g, i + 1, none⟩ v1).setCell ⟨g, i + 2, none⟩ v2).setCell ⟨g, i + 3, none⟩ v3).setCell ⟨g, i + 4, none⟩ v4).setCell ⟨g, i + 5, none⟩ v5).setCell ⟨g, i + 6, none⟩ v6).setCell ⟨g, i + 7, none⟩ v7).setCell ⟨g, i + 8, none⟩ v8).setCell ⟨g, i + 9, none⟩ v9).setCell ⟨g, i + 10, none⟩ v10).setCell ⟨g, i + 11, none⟩ v11) base ok v xs := (Kd.V_far (p := ⟨g, i + 11, none⟩) (Kd.V_far (p := ⟨g, i + 10, none⟩) (Kd.V_far (p := ⟨g, i + 9, none⟩) (Kd.V_far (p := ⟨g, i + 8, none⟩) (Kd.V_far (p := ⟨g, i + 7, none⟩) (Kd.V_far (p := ⟨g, i + 6, none⟩) (Kd.V_far (p := ⟨g, i + 5, none⟩) (Kd.V_far (p := ⟨g, i + 4, none⟩) (Kd.V_far (p := ⟨g, i + 3, none⟩) (Kd.V_far (p := ⟨g, i + 2, none⟩) (Kd.V_far (p := ⟨g, i + 1, none⟩) (Kd.V_far (p := ⟨g, i + 0, none⟩) h hok v0) hok v1) hok v2) hok v3) hok v4) hok v5) hok v6) hok v7) hok v8) hok v9) hok v10) hok v11)
theorem vf4 {α : Type} {d : Kd α} {e base : Nat} {ok : Nat → Prop} {v : Value} {xs : List α} {w : World} (g i : Nat) (h : Kd.V d e w base ok v xs) (hok : ∀ k, ok k → k ≠ g) (v0 v1 v2 v3 : Value) : Kd.V d e ((((w.setCell ⟨g, i + 0, none⟩ v0).setCell ⟨g, i + 1, none⟩ v1).setCell ⟨g, i + 2, none⟩ v2).setCell ⟨g, i + 3, none⟩ v3) base ok v xs := (Kd.V_far (p := ⟨g, i + 3, none⟩) (Kd.V_far (p := ⟨g, i + 2, none⟩) (Kd.V_far (p := ⟨g, i + 1, none⟩) (Kd.V_far (p := ⟨g, i + 0, none⟩) h hok v0) hok v1) hok v2) hok v3)
theorem vf5 {α : Type} {d : Kd α} {e base : Nat} {ok : Nat → Prop} {v : Value} {xs : List α} {w : World} (g i : Nat) (h : Kd.V d e w base ok v xs) (hok : ∀ k, ok k → k ≠ g) (v0 v1 v2 v3 v4 : Value) : Kd.V d e (((((w.setCell ⟨g, i + 0, none⟩ v0).setCell ⟨g, i + 1, none⟩ v1).setCell ⟨g, i + 2, none⟩ v2).setCell ⟨g, i + 3, none⟩ v3).setCell ⟨g, i + 4, none⟩ v4) base ok v xs := (Kd.V_far (p := ⟨g, i + 4, none⟩) (Kd.V_far (p := ⟨g, i + 3, none⟩) (Kd.V_far (p := ⟨g, i + 2, none⟩) (Kd.V_far (p := ⟨g, i + 1, none⟩) (Kd.V_far (p := ⟨g, i + 0, none⟩) h hok v0) hok v1) hok v2) hok v3) hok v4)
theorem vf8 {α : Type} {d : Kd α} {e base : Nat} {ok : Nat → Prop} {v : Value} {xs : List α} {w : World} (g i : Nat) (h : Kd.V d e w base ok v xs) (hok : ∀ k, ok k → k ≠ g) (v0 v1 v2 v3 v4 v5 v6 v7 : Value) : Kd.V d e ((((((((w.setCell ⟨g, i + 0, none⟩ v0).setCell ⟨g, i + 1, none⟩ v1).setCell ⟨g, i + 2, none⟩ v2).setCell ⟨g, i + 3, none⟩ v3).setCell ⟨g, i + 4, none⟩ v4).setCell ⟨g, i + 5, none⟩ v5).setCell ⟨g, i + 6, none⟩ v6).setCell ⟨g, i + 7, none⟩ v7) base ok v xs := (Kd.V_far (p := ⟨g, i + 7, none⟩) (Kd.V_far (p := ⟨g, i + 6, none⟩) (Kd.V_far (p := ⟨g, i + 5, none⟩) (Kd.V_far (p := ⟨g, i + 4, none⟩) (Kd.V_far (p := ⟨g, i + 3, none⟩) (Kd.V_far (p := ⟨g, i + 2, none⟩) (Kd.V_far (p := ⟨g, i + 1, none⟩) (Kd.V_far (p := ⟨g, i + 0, none⟩) h hok v0) hok v1) hok v2) hok v3) hok v4) hok v5) hok v6) hok v7)
theorem fz12 {w : World} {g : Nat} {t : TypeId} {cs : Array Value} (h : w.heap[g]? = some (.cells cs t (0, 0))) : w.frozen? ⟨g, 0, none⟩ = false ∧ w.frozen? ⟨g, 1, none⟩ = false ∧ w.frozen? ⟨g, 2, none⟩ = false ∧ w.frozen? ⟨g, 3, none⟩ = false ∧ w.frozen? ⟨g, 4, none⟩ = false ∧ w.frozen? ⟨g, 5, none⟩ = false ∧ w.frozen? ⟨g, 6, none⟩ = false ∧ w.frozen? ⟨g, 7, none⟩ = false ∧ w.frozen? ⟨g, 8, none⟩ = false ∧ w.frozen? ⟨g, 9, none⟩ = false ∧ w.frozen? ⟨g, 10, none⟩ = false ∧ w.frozen? ⟨g, 11, none⟩ = false :=
  ⟨blk_frozen h 0, blk_frozen h 1, blk_frozen h 2, blk_frozen h 3, blk_frozen h 4, blk_frozen h 5, blk_frozen h 6, blk_frozen h 7, blk_frozen h 8, blk_frozen h 9, blk_frozen h 10, blk_frozen h 11⟩
theorem fz4 {w : World} {g : Nat} {t : TypeId} {cs : Array Value} (h : w.heap[g]? = some (.cells cs t (0, 0))) : w.frozen? ⟨g, 0, none⟩ = false ∧ w.frozen? ⟨g, 1, none⟩ = false ∧ w.frozen? ⟨g, 2, none⟩ = false ∧ w.frozen? ⟨g, 3, none⟩ = false :=
  ⟨blk_frozen h 0, blk_frozen h 1, blk_frozen h 2, blk_frozen h 3⟩
theorem fz5 {w : World} {g : Nat} {t : TypeId} {cs : Array Value} (h : w.heap[g]? = some (.cells cs t (0, 0))) : w.frozen? ⟨g, 0, none⟩ = false ∧ w.frozen? ⟨g, 1, none⟩ = false ∧ w.frozen? ⟨g, 2, none⟩ = false ∧ w.frozen? ⟨g, 3, none⟩ = false ∧ w.frozen? ⟨g, 4, none⟩ = false :=
  ⟨blk_frozen h 0, blk_frozen h 1, blk_frozen h 2, blk_frozen h 3, blk_frozen h 4⟩
theorem fz8 {w : World} {g : Nat} {t : TypeId} {cs : Array Value} (h : w.heap[g]? = some (.cells cs t (0, 0))) : w.frozen? ⟨g, 0, none⟩ = false ∧ w.frozen? ⟨g, 1, none⟩ = false ∧ w.frozen? ⟨g, 2, none⟩ = false ∧ w.frozen? ⟨g, 3, none⟩ = false ∧ w.frozen? ⟨g, 4, none⟩ = false ∧ w.frozen? ⟨g, 5, none⟩ = false ∧ w.frozen? ⟨g, 6, none⟩ = false ∧ w.frozen? ⟨g, 7, none⟩ = false :=
  ⟨blk_frozen h 0, blk_frozen h 1, blk_frozen h 2, blk_frozen h 3, blk_frozen h 4, blk_frozen h 5, blk_frozen h 6, blk_frozen h 7⟩
theorem pt12_0_12 {w W0 W1 W2 W3 W4 W5 W6 W7 W8 W9 W10 W11 : World} {g : Nat} {t : TypeId} {x0 x1 x2 x3 x4 x5 x6 x7 x8 x9 x10 x11 v0 v1 v2 v3 v4 v5 v6 v7 v8 v9 v10 v11 : Value} [m0 : Mv w W0] [m1 : Mv (W0.setCell ⟨g, 0, none⟩ v0) W1] [m2 : Mv (W1.setCell ⟨g, 1, none⟩ v1) W2] [m3 : Mv (W2.setCell ⟨g, 2, none⟩ v2) W3] [m4 : Mv (W3.setCell ⟨g, 3, none⟩ v3) W4] [m5 : Mv (W4.setCell ⟨g, 4, none⟩ v4) W5] [m6 : Mv (W5.setCell ⟨g, 5, none⟩ v5) W6] [m7 : Mv (W6.setCell ⟨g, 6, none⟩ v6) W7] [m8 : Mv (W7.setCell ⟨g, 7, none⟩ v7) W8] [m9 : Mv (W8.setCell ⟨g, 8, none⟩ v8) W9] [m10 : Mv (W9.setCell ⟨g, 9, none⟩ v9) W10] [m11 : Mv (W10.setCell ⟨g, 10, none⟩ v10) W11] (h : w.heap[g]? = some (.cells #[x0, x1, x2, x3, x4, x5, x6, x7, x8, x9, x10, x11] t (0, 0))) : (W11.setCell ⟨g, 11, none⟩ v11).heap[g]? = some (.cells #[v0, v1, v2, v3, v4, v5, v6, v7, v8, v9, v10, v11] t (0, 0)) := by
  have h0 := blk_put (mK (m := m0) h) 0 v0 (cs' := #[v0, x1, x2, x3, x4, x5, x6, x7, x8, x9, x10, x11]) rfl
  have h1 := blk_put (mK (m := m1) h0) 1 v1 (cs' := #[v0, v1, x2, x3, x4, x5, x6, x7, x8, x9, x10, x11]) rfl
  have h2 := blk_put (mK (m := m2) h1) 2 v2 (cs' := #[v0, v1, v2, x3, x4, x5, x6, x7, x8, x9, x10, x11]) rfl
  have h3 := blk_put (mK (m := m3) h2) 3 v3 (cs' := #[v0, v1, v2, v3, x4, x5, x6, x7, x8, x9, x10, x11]) rfl
  have h4 := blk_put (mK (m := m4) h3) 4 v4 (cs' := #[v0, v1, v2, v3, v4, x5, x6, x7, x8, x9, x10, x11]) rfl
  have h5 := blk_put (mK (m := m5) h4) 5 v5 (cs' := #[v0, v1, v2, v3, v4, v5, x6, x7, x8, x9, x10, x11]) rfl
  have h6 := blk_put (mK (m := m6) h5) 6 v6 (cs' := #[v0, v1, v2, v3, v4, v5, v6, x7, x8, x9, x10, x11]) rfl
  have h7 := blk_put (mK (m := m7) h6) 7 v7 (cs' := #[v0, v1, v2, v3, v4, v5, v6, v7, x8, x9, x10, x11]) rfl
  have h8 := blk_put (mK (m := m8) h7) 8 v8 (cs' := #[v0, v1, v2, v3, v4, v5, v6, v7, v8, x9, x10, x11]) rfl
  have h9 := blk_put (mK (m := m9) h8) 9 v9 (cs' := #[v0, v1, v2, v3, v4, v5, v6, v7, v8, v9, x10, x11]) rfl
  have h10 := blk_put (mK (m := m10) h9) 10 v10 (cs' := #[v0, v1, v2, v3, v4, v5, v6, v7, v8, v9, v10, x11]) rfl
  have h11 := blk_put (mK (m := m11) h10) 11 v11 (cs' := #[v0, v1, v2, v3, v4, v5, v6, v7, v8, v9, v10, v11]) rfl
  exact h11
theorem pt12_0_5 {w W0 W1 W2 W3 W4 : World} {g : Nat} {t : TypeId} {x0 x1 x2 x3 x4 x5 x6 x7 x8 x9 x10 x11 v0 v1 v2 v3 v4 : Value} [m0 : Mv w W0] [m1 : Mv (W0.setCell ⟨g, 0, none⟩ v0) W1] [m2 : Mv (W1.setCell ⟨g, 1, none⟩ v1) W2] [m3 : Mv (W2.setCell ⟨g, 2, none⟩ v2) W3] [m4 : Mv (W3.setCell ⟨g, 3, none⟩ v3) W4] (h : w.heap[g]? = some (.cells #[x0, x1, x2, x3, x4, x5, x6, x7, x8, x9, x10, x11] t (0, 0))) : (W4.setCell ⟨g, 4, none⟩ v4).heap[g]? = some (.cells #[v0, v1, v2, v3, v4, x5, x6, x7, x8, x9, x10, x11] t (0, 0)) := by
  have h0 := blk_put (mK (m := m0) h) 0 v0 (cs' := #[v0, x1, x2, x3, x4, x5, x6, x7, x8, x9, x10, x11]) rfl
  have h1 := blk_put (mK (m := m1) h0) 1 v1 (cs' := #[v0, v1, x2, x3, x4, x5, x6, x7, x8, x9, x10, x11]) rfl
  have h2 := blk_put (mK (m := m2) h1) 2 v2 (cs' := #[v0, v1, v2, x3, x4, x5, x6, x7, x8, x9, x10, x11]) rfl
  have h3 := blk_put (mK (m := m3) h2) 3 v3 (cs' := #[v0, v1, v2, v3, x4, x5, x6, x7, x8, x9, x10, x11]) rfl
  have h4 := blk_put (mK (m := m4) h3) 4 v4 (cs' := #[v0, v1, v2, v3, v4, x5, x6, x7, x8, x9, x10, x11]) rfl
  exact h4
theorem pt12_10_1 {w W0 : World} {g : Nat} {t : TypeId} {x0 x1 x2 x3 x4 x5 x6 x7 x8 x9 x10 x11 v0 : Value} [m0 : Mv w W0] (h : w.heap[g]? = some (.cells #[x0, x1, x2, x3, x4, x5, x6, x7, x8, x9, x10, x11] t (0, 0))) : (W0.setCell ⟨g, 10, none⟩ v0).heap[g]? = some (.cells #[x0, x1, x2, x3, x4, x5, x6, x7, x8, x9, v0, x11] t (0, 0)) := by
  have h0 := blk_put (mK (m := m0) h) 10 v0 (cs' := #[x0, x1, x2, x3, x4, x5, x6, x7, x8, x9, v0, x11]) rfl
  exact h0
theorem pt12_11_1 {w W0 : World} {g : Nat} {t : TypeId} {x0 x1 x2 x3 x4 x5 x6 x7 x8 x9 x10 x11 v0 : Value} [m0 : Mv w W0] (h : w.heap[g]? = some (.cells #[x0, x1, x2, x3, x4, x5, x6, x7, x8, x9, x10, x11] t (0, 0))) : (W0.setCell ⟨g, 11, none⟩ v0).heap[g]? = some (.cells #[x0, x1, x2, x3, x4, x5, x6, x7, x8, x9, x10, v0] t (0, 0)) := by
  have h0 := blk_put (mK (m := m0) h) 11 v0 (cs' := #[x0, x1, x2, x3, x4, x5, x6, x7, x8, x9, x10, v0]) rfl
  exact h0
theorem pt12_5_4 {w W0 W1 W2 W3 : World} {g : Nat} {t : TypeId} {x0 x1 x2 x3 x4 x5 x6 x7 x8 x9 x10 x11 v0 v1 v2 v3 : Value} [m0 : Mv w W0] [m1 : Mv (W0.setCell ⟨g, 5, none⟩ v0) W1] [m2 : Mv (W1.setCell ⟨g, 6, none⟩ v1) W2] [m3 : Mv (W2.setCell ⟨g, 7, none⟩ v2) W3] (h : w.heap[g]? = some (.cells #[x0, x1, x2, x3, x4, x5, x6, x7, x8, x9, x10, x11] t (0, 0))) : (W3.setCell ⟨g, 8, none⟩ v3).heap[g]? = some (.cells #[x0, x1, x2, x3, x4, v0, v1, v2, v3, x9, x10, x11] t (0, 0)) := by
  have h0 := blk_put (mK (m := m0) h) 5 v0 (cs' := #[x0, x1, x2, x3, x4, v0, x6, x7, x8, x9, x10, x11]) rfl
  have h1 := blk_put (mK (m := m1) h0) 6 v1 (cs' := #[x0, x1, x2, x3, x4, v0, v1, x7, x8, x9, x10, x11]) rfl
  have h2 := blk_put (mK (m := m2) h1) 7 v2 (cs' := #[x0, x1, x2, x3, x4, v0, v1, v2, x8, x9, x10, x11]) rfl
  have h3 := blk_put (mK (m := m3) h2) 8 v3 (cs' := #[x0, x1, x2, x3, x4, v0, v1, v2, v3, x9, x10, x11]) rfl
  exact h3
theorem pt12_9_1 {w W0 : World} {g : Nat} {t : TypeId} {x0 x1 x2 x3 x4 x5 x6 x7 x8 x9 x10 x11 v0 : Value} [m0 : Mv w W0] (h : w.heap[g]? = some (.cells #[x0, x1, x2, x3, x4, x5, x6, x7, x8, x9, x10, x11] t (0, 0))) : (W0.setCell ⟨g, 9, none⟩ v0).heap[g]? = some (.cells #[x0, x1, x2, x3, x4, x5, x6, x7, x8, v0, x10, x11] t (0, 0)) := by
  have h0 := blk_put (mK (m := m0) h) 9 v0 (cs' := #[x0, x1, x2, x3, x4, x5, x6, x7, x8, v0, x10, x11]) rfl
  exact h0
theorem pt4_0_4 {w W0 W1 W2 W3 : World} {g : Nat} {t : TypeId} {x0 x1 x2 x3 v0 v1 v2 v3 : Value} [m0 : Mv w W0] [m1 : Mv (W0.setCell ⟨g, 0, none⟩ v0) W1] [m2 : Mv (W1.setCell ⟨g, 1, none⟩ v1) W2] [m3 : Mv (W2.setCell ⟨g, 2, none⟩ v2) W3] (h : w.heap[g]? = some (.cells #[x0, x1, x2, x3] t (0, 0))) : (W3.setCell ⟨g, 3, none⟩ v3).heap[g]? = some (.cells #[v0, v1, v2, v3] t (0, 0)) := by
  have h0 := blk_put (mK (m := m0) h) 0 v0 (cs' := #[v0, x1, x2, x3]) rfl
  have h1 := blk_put (mK (m := m1) h0) 1 v1 (cs' := #[v0, v1, x2, x3]) rfl
  have h2 := blk_put (mK (m := m2) h1) 2 v2 (cs' := #[v0, v1, v2, x3]) rfl
  have h3 := blk_put (mK (m := m3) h2) 3 v3 (cs' := #[v0, v1, v2, v3]) rfl
  exact h3
theorem pt5_0_5 {w W0 W1 W2 W3 W4 : World} {g : Nat} {t : TypeId} {x0 x1 x2 x3 x4 v0 v1 v2 v3 v4 : Value} [m0 : Mv w W0] [m1 : Mv (W0.setCell ⟨g, 0, none⟩ v0) W1] [m2 : Mv (W1.setCell ⟨g, 1, none⟩ v1) W2] [m3 : Mv (W2.setCell ⟨g, 2, none⟩ v2) W3] [m4 : Mv (W3.setCell ⟨g, 3, none⟩ v3) W4] (h : w.heap[g]? = some (.cells #[x0, x1, x2, x3, x4] t (0, 0))) : (W4.setCell ⟨g, 4, none⟩ v4).heap[g]? = some (.cells #[v0, v1, v2, v3, v4] t (0, 0)) := by
  have h0 := blk_put (mK (m := m0) h) 0 v0 (cs' := #[v0, x1, x2, x3, x4]) rfl
  have h1 := blk_put (mK (m := m1) h0) 1 v1 (cs' := #[v0, v1, x2, x3, x4]) rfl
  have h2 := blk_put (mK (m := m2) h1) 2 v2 (cs' := #[v0, v1, v2, x3, x4]) rfl
  have h3 := blk_put (mK (m := m3) h2) 3 v3 (cs' := #[v0, v1, v2, v3, x4]) rfl
  have h4 := blk_put (mK (m := m4) h3) 4 v4 (cs' := #[v0, v1, v2, v3, v4]) rfl
  exact h4
theorem pt8_0_8 {w W0 W1 W2 W3 W4 W5 W6 W7 : World} {g : Nat} {t : TypeId} {x0 x1 x2 x3 x4 x5 x6 x7 v0 v1 v2 v3 v4 v5 v6 v7 : Value} [m0 : Mv w W0] [m1 : Mv (W0.setCell ⟨g, 0, none⟩ v0) W1] [m2 : Mv (W1.setCell ⟨g, 1, none⟩ v1) W2] [m3 : Mv (W2.setCell ⟨g, 2, none⟩ v2) W3] [m4 : Mv (W3.setCell ⟨g, 3, none⟩ v3) W4] [m5 : Mv (W4.setCell ⟨g, 4, none⟩ v4) W5] [m6 : Mv (W5.setCell ⟨g, 5, none⟩ v5) W6] [m7 : Mv (W6.setCell ⟨g, 6, none⟩ v6) W7] (h : w.heap[g]? = some (.cells #[x0, x1, x2, x3, x4, x5, x6, x7] t (0, 0))) : (W7.setCell ⟨g, 7, none⟩ v7).heap[g]? = some (.cells #[v0, v1, v2, v3, v4, v5, v6, v7] t (0, 0)) := by
  have h0 := blk_put (mK (m := m0) h) 0 v0 (cs' := #[v0, x1, x2, x3, x4, x5, x6, x7]) rfl
  have h1 := blk_put (mK (m := m1) h0) 1 v1 (cs' := #[v0, v1, x2, x3, x4, x5, x6, x7]) rfl
  have h2 := blk_put (mK (m := m2) h1) 2 v2 (cs' := #[v0, v1, v2, x3, x4, x5, x6, x7]) rfl
  have h3 := blk_put (mK (m := m3) h2) 3 v3 (cs' := #[v0, v1, v2, v3, x4, x5, x6, x7]) rfl
  have h4 := blk_put (mK (m := m4) h3) 4 v4 (cs' := #[v0, v1, v2, v3, v4, x5, x6, x7]) rfl
  have h5 := blk_put (mK (m := m5) h4) 5 v5 (cs' := #[v0, v1, v2, v3, v4, v5, x6, x7]) rfl
  have h6 := blk_put (mK (m := m6) h5) 6 v6 (cs' := #[v0, v1, v2, v3, v4, v5, v6, x7]) rfl
  have h7 := blk_put (mK (m := m7) h6) 7 v7 (cs' := #[v0, v1, v2, v3, v4, v5, v6, v7]) rfl
  exact h7
end Go.Proofs.Ytedoloapddmanaa.PB
