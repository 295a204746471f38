-- Written by a program of this session (wip/tools) over the kit's print.
import Derived.Test.YtedoloapddmanaaPBx0
import Derived.Test.YtedoloapddmanaaSh
import Derived.Test.YtedoloapddmanaaSh3
import Derived.Test.YtedoloapddmanaaPBx10
import Derived.Test.YtedoloapddmanaaPBx13
import Derived.Test.YtedoloapddmanaaPBx16
namespace Go.Proofs.Ytedoloapddmanaa.PB
open Go.RowKit Go.Proofs.YtedoloapddmanaaW.PrintWords Go.Proofs.YtedoloapddmanaaW.PrintLast Go.Proofs.YtedoloapddmanaaW.PrintMore
attribute [local go_sem] max2_int min2_int max_two min_two max_three min_three max_four min_four   -- for this text's walks alone
set_option linter.unusedVariables false
set_option linter.unusedSimpArgs false

/-! ### standbyref32_Learn: function 30 -/
mutual
def standbyref32_Learn.j0 : Nat → Bool → Int → Int → List Int → Int → Int → Int → Int → Int → Int → Int → Int → Option (Int × Int × List Int × Int × Int × (List (S53)))
 | 0, _, _, _, _, _, _, _, _, _, _, _, _ => none
 | k + 1, x29, bZ, b2, bR, bW, b0, b1, b7, b8, b9, bU, b6 => if x29 = true then (some (bZ, b2, bR, bW, b0, ([] : List (S53)))) else (if b1 = 9 then (standbyref32_Learn.j1 k false bZ b2 bR bW b0 b1 b7 b8 b9 bU b6) else (if b1 = 11 then (standbyref32_Learn.j1 k false bZ b2 bR bW b0 b1 b7 b8 b9 bU b6) else (standbyref32_Learn.j1 k (b1 != 12) bZ b2 bR bW b0 b1 b7 b8 b9 bU b6)))
def standbyref32_Learn.j1 : Nat → Bool → Int → Int → List Int → Int → Int → Int → Int → Int → Int → Int → Int → Option (Int × Int × List Int × Int × Int × (List (S53)))
 | 0, _, _, _, _, _, _, _, _, _, _, _, _ => none
 | k + 1, x43, bZ, b2, bR, bW, b0, b1, b7, b8, b9, bU, b6 => if x43 = true then (some (bZ, b2, bR, bW, b0, ([] : List (S53)))) else ((standbyref32_Copy.f bZ b2 bR bW b0).bind fun bN => (if b6 > bZ then (some (b6, bN.2.1, ([] : List Int), b0, bN.2.2.2.2, ([] : List (S53)))) else (if b1 = 9 then ((standbyref32_has.f k bR bU).bind fun jP => (if jP = true then (standbyref32_Learn.j2 k (decide (bU ≥ bW)) bZ b2 bR bW b0 b1 b7 b8 b9 bU b6 bN.1 bN.2.1 bN.2.2.1 bN.2.2.2.1 bN.2.2.2.2) else (standbyref32_Learn.j2 k false bZ b2 bR bW b0 b1 b7 b8 b9 bU b6 bN.1 bN.2.1 bN.2.2.1 bN.2.2.2.1 bN.2.2.2.2))) else (standbyref32_Learn.j2 k false bZ b2 bR bW b0 b1 b7 b8 b9 bU b6 bN.1 bN.2.1 bN.2.2.1 bN.2.2.2.1 bN.2.2.2.2))))
def standbyref32_Learn.j2 : Nat → Bool → Int → Int → List Int → Int → Int → Int → Int → Int → Int → Int → Int → Int → Int → List Int → Int → Int → Option (Int × Int × List Int × Int × Int × (List (S53)))
 | 0, _, _, _, _, _, _, _, _, _, _, _, _, _, _, _, _, _ => none
 | k + 1, x76, bZ, b2, bR, bW, b0, b1, b7, b8, b9, bU, b6, cE, cF, cG, cJ, cH => if x76 = true then ((standbyref32_toTarget.f bZ b2 bR bW b0 10 bU).bind fun cB => (some (cE, cF, cG, bU, cH, (([(⟨cB.1, cB.2.1, cB.2.2.1, cB.2.2.2.1, cB.2.2.2.2.1, cB.2.2.2.2.2.1, cB.2.2.2.2.2.2.1, cB.2.2.2.2.2.2.2⟩ : S53)] : List (S53)))))) else (if b1 = 11 then ((standbyref32_has.f k bR bU).bind fun eT => (standbyref32_Learn.j3 k eT bZ b2 bR bW b0 b1 b7 b8 b9 bU b6 cE cF cG cJ cH)) else (standbyref32_Learn.j3 k false bZ b2 bR bW b0 b1 b7 b8 b9 bU b6 cE cF cG cJ cH))
def standbyref32_Learn.j3 : Nat → Bool → Int → Int → List Int → Int → Int → Int → Int → Int → Int → Int → Int → Int → Int → List Int → Int → Int → Option (Int × Int × List Int × Int × Int × (List (S53)))
 | 0, _, _, _, _, _, _, _, _, _, _, _, _, _, _, _, _, _ => none
 | k + 1, x95, bZ, b2, bR, bW, b0, b1, b7, b8, b9, bU, b6, cE, cF, cG, cJ, cH => if x95 = true then (standbyref32_Learn.l0 k 0 bZ b2 bR bW b0 b1 b7 b8 b9 bU b6 cE cF ([] : List Int) (mx bW bU) bU) else (some (cE, cF, cG, cJ, cH, ([] : List (S53))))
def standbyref32_Learn.l0 : Nat → Int → Int → Int → List Int → Int → Int → Int → Int → Int → Int → Int → Int → Int → Int → List Int → Int → Int → Option (Int × Int × List Int × Int × Int × (List (S53)))
 | 0, _, _, _, _, _, _, _, _, _, _, _, _, _, _, _, _, _ => none
 | k + 1, x7, bZ, b2, bR, bW, b0, b1, b7, b8, b9, bU, b6, cE, cF, cG, cJ, cH => if x7 < (bR.length : Int) then (if 0 ≤ x7 then (if (rd bR x7) > bU then (if cG.length < 17592186044416 then (standbyref32_Learn.l0 k (wrap64 (x7 + 1)) bZ b2 bR bW b0 b1 b7 b8 b9 bU b6 cE cF (cG ++ [rd bR x7]) cJ cH) else (none)) else (standbyref32_Learn.l0 k (wrap64 (x7 + 1)) bZ b2 bR bW b0 b1 b7 b8 b9 bU b6 cE cF cG cJ cH)) else (none)) else (some (cE, cF, cG, cJ, cH, ([] : List (S53))))
end
def standbyref32_Learn.f (k : Nat) (aR : Int) (aT : Int) (aM : List Int) (aU : Int) (aW : Int) (aX : Int) (bI : Int) (bO : Int) (bP : Int) (aQ : Int) (bD : Int) (q7 : Unit) (q8 : Unit) : Option (Int × Int × List Int × Int × Int × (List (S53))) := (standbyref32_CheckSource.f k aR aT aM aU aW).bind fun cN => (if cN = 0 then (if bI = aT then (if bD < aR then (standbyref32_Learn.j0 k true aR aT aM aU aW aX bI bO bP aQ bD) else (standbyref32_Learn.j0 k (decide (bD > 1073741824)) aR aT aM aU aW aX bI bO bP aQ bD)) else (standbyref32_Learn.j0 k true aR aT aM aU aW aX bI bO bP aQ bD)) else (standbyref32_Learn.j0 k true aR aT aM aU aW aX bI bO bP aQ bD))
theorem standbyref32_Learn.mono_l : ∀ k, (∀ y0 y1 y2 y3 y4 y5 y6 y7 y8 y9 y10 y11, LeO (standbyref32_Learn.j0 k y0 y1 y2 y3 y4 y5 y6 y7 y8 y9 y10 y11) (standbyref32_Learn.j0 (k + 1) y0 y1 y2 y3 y4 y5 y6 y7 y8 y9 y10 y11)) ∧ (∀ y0 y1 y2 y3 y4 y5 y6 y7 y8 y9 y10 y11, LeO (standbyref32_Learn.j1 k y0 y1 y2 y3 y4 y5 y6 y7 y8 y9 y10 y11) (standbyref32_Learn.j1 (k + 1) y0 y1 y2 y3 y4 y5 y6 y7 y8 y9 y10 y11)) ∧ (∀ y0 y1 y2 y3 y4 y5 y6 y7 y8 y9 y10 y11 y12 y13 y14 y15 y16, LeO (standbyref32_Learn.j2 k y0 y1 y2 y3 y4 y5 y6 y7 y8 y9 y10 y11 y12 y13 y14 y15 y16) (standbyref32_Learn.j2 (k + 1) y0 y1 y2 y3 y4 y5 y6 y7 y8 y9 y10 y11 y12 y13 y14 y15 y16)) ∧ (∀ y0 y1 y2 y3 y4 y5 y6 y7 y8 y9 y10 y11 y12 y13 y14 y15 y16, LeO (standbyref32_Learn.j3 k y0 y1 y2 y3 y4 y5 y6 y7 y8 y9 y10 y11 y12 y13 y14 y15 y16) (standbyref32_Learn.j3 (k + 1) y0 y1 y2 y3 y4 y5 y6 y7 y8 y9 y10 y11 y12 y13 y14 y15 y16)) ∧ (∀ y0 y1 y2 y3 y4 y5 y6 y7 y8 y9 y10 y11 y12 y13 y14 y15 y16, LeO (standbyref32_Learn.l0 k y0 y1 y2 y3 y4 y5 y6 y7 y8 y9 y10 y11 y12 y13 y14 y15 y16) (standbyref32_Learn.l0 (k + 1) y0 y1 y2 y3 y4 y5 y6 y7 y8 y9 y10 y11 y12 y13 y14 y15 y16))
 | 0 => ⟨fun _ _ _ _ _ _ _ _ _ _ _ _ r h => by simp [standbyref32_Learn.j0] at h, fun _ _ _ _ _ _ _ _ _ _ _ _ r h => by simp [standbyref32_Learn.j1] at h, fun _ _ _ _ _ _ _ _ _ _ _ _ _ _ _ _ _ r h => by simp [standbyref32_Learn.j2] at h, fun _ _ _ _ _ _ _ _ _ _ _ _ _ _ _ _ _ r h => by simp [standbyref32_Learn.j3] at h, fun _ _ _ _ _ _ _ _ _ _ _ _ _ _ _ _ _ r h => by simp [standbyref32_Learn.l0] at h⟩
 | k + 1 => by
  obtain ⟨ih0, ih1, ih2, ih3, ih4⟩ := standbyref32_Learn.mono_l k
  refine ⟨?_, ?_, ?_, ?_, ?_⟩
  ·intro y0 y1 y2 y3 y4 y5 y6 y7 y8 y9 y10 y11
   unfold standbyref32_Learn.j0
   repeat' first
   | (with_reducible exact ih0 _ _ _ _ _ _ _ _ _ _ _ _)
   | (with_reducible exact ih1 _ _ _ _ _ _ _ _ _ _ _ _)
   | (with_reducible exact ih2 _ _ _ _ _ _ _ _ _ _ _ _ _ _ _ _ _)
   | (with_reducible exact ih3 _ _ _ _ _ _ _ _ _ _ _ _ _ _ _ _ _)
   | (with_reducible exact ih4 _ _ _ _ _ _ _ _ _ _ _ _ _ _ _ _ _)
   | (with_reducible exact standbyref32_CheckSource.mono _ _ _ _ _ _)
   | (with_reducible exact standbyref32_has.mono _ _ _)
   | (with_reducible exact LeO.refl _)
   | (with_reducible exact LeO.none _)
   | (with_reducible refine LeO.ite ?_ ?_)
   | (with_reducible refine LeO.bind ?_ (fun _ => ?_))
   | exact ih0 _ _ _ _ _ _ _ _ _ _ _ _
   | exact ih1 _ _ _ _ _ _ _ _ _ _ _ _
   | exact ih2 _ _ _ _ _ _ _ _ _ _ _ _ _ _ _ _ _
   | exact ih3 _ _ _ _ _ _ _ _ _ _ _ _ _ _ _ _ _
   | exact ih4 _ _ _ _ _ _ _ _ _ _ _ _ _ _ _ _ _
   | exact standbyref32_CheckSource.mono _ _ _ _ _ _
   | exact standbyref32_has.mono _ _ _
   | exact LeO.none _
   | refine LeO.ite ?_ ?_
   | refine LeO.bind ?_ (fun _ => ?_)
  ·intro y0 y1 y2 y3 y4 y5 y6 y7 y8 y9 y10 y11
   unfold standbyref32_Learn.j1
   repeat' first
   | (with_reducible exact ih0 _ _ _ _ _ _ _ _ _ _ _ _)
   | (with_reducible exact ih1 _ _ _ _ _ _ _ _ _ _ _ _)
   | (with_reducible exact ih2 _ _ _ _ _ _ _ _ _ _ _ _ _ _ _ _ _)
   | (with_reducible exact ih3 _ _ _ _ _ _ _ _ _ _ _ _ _ _ _ _ _)
   | (with_reducible exact ih4 _ _ _ _ _ _ _ _ _ _ _ _ _ _ _ _ _)
   | (with_reducible exact standbyref32_CheckSource.mono _ _ _ _ _ _)
   | (with_reducible exact standbyref32_has.mono _ _ _)
   | (with_reducible exact LeO.refl _)
   | (with_reducible exact LeO.none _)
   | (with_reducible refine LeO.ite ?_ ?_)
   | (with_reducible refine LeO.bind ?_ (fun _ => ?_))
   | exact ih0 _ _ _ _ _ _ _ _ _ _ _ _
   | exact ih1 _ _ _ _ _ _ _ _ _ _ _ _
   | exact ih2 _ _ _ _ _ _ _ _ _ _ _ _ _ _ _ _ _
   | exact ih3 _ _ _ _ _ _ _ _ _ _ _ _ _ _ _ _ _
   | exact ih4 _ _ _ _ _ _ _ _ _ _ _ _ _ _ _ _ _
   | exact standbyref32_CheckSource.mono _ _ _ _ _ _
   | exact standbyref32_has.mono _ _ _
   | exact LeO.none _
   | refine LeO.ite ?_ ?_
   | refine LeO.bind ?_ (fun _ => ?_)
  ·intro y0 y1 y2 y3 y4 y5 y6 y7 y8 y9 y10 y11 y12 y13 y14 y15 y16
   unfold standbyref32_Learn.j2
   repeat' first
   | (with_reducible exact ih0 _ _ _ _ _ _ _ _ _ _ _ _)
   | (with_reducible exact ih1 _ _ _ _ _ _ _ _ _ _ _ _)
   | (with_reducible exact ih2 _ _ _ _ _ _ _ _ _ _ _ _ _ _ _ _ _)
   | (with_reducible exact ih3 _ _ _ _ _ _ _ _ _ _ _ _ _ _ _ _ _)
   | (with_reducible exact ih4 _ _ _ _ _ _ _ _ _ _ _ _ _ _ _ _ _)
   | (with_reducible exact standbyref32_CheckSource.mono _ _ _ _ _ _)
   | (with_reducible exact standbyref32_has.mono _ _ _)
   | (with_reducible exact LeO.refl _)
   | (with_reducible exact LeO.none _)
   | (with_reducible refine LeO.ite ?_ ?_)
   | (with_reducible refine LeO.bind ?_ (fun _ => ?_))
   | exact ih0 _ _ _ _ _ _ _ _ _ _ _ _
   | exact ih1 _ _ _ _ _ _ _ _ _ _ _ _
   | exact ih2 _ _ _ _ _ _ _ _ _ _ _ _ _ _ _ _ _
   | exact ih3 _ _ _ _ _ _ _ _ _ _ _ _ _ _ _ _ _
   | exact ih4 _ _ _ _ _ _ _ _ _ _ _ _ _ _ _ _ _
   | exact standbyref32_CheckSource.mono _ _ _ _ _ _
   | exact standbyref32_has.mono _ _ _
   | exact LeO.none _
   | refine LeO.ite ?_ ?_
   | refine LeO.bind ?_ (fun _ => ?_)
  ·intro y0 y1 y2 y3 y4 y5 y6 y7 y8 y9 y10 y11 y12 y13 y14 y15 y16
   unfold standbyref32_Learn.j3
   repeat' first
   | (with_reducible exact ih0 _ _ _ _ _ _ _ _ _ _ _ _)
   | (with_reducible exact ih1 _ _ _ _ _ _ _ _ _ _ _ _)
   | (with_reducible exact ih2 _ _ _ _ _ _ _ _ _ _ _ _ _ _ _ _ _)
   | (with_reducible exact ih3 _ _ _ _ _ _ _ _ _ _ _ _ _ _ _ _ _)
   | (with_reducible exact ih4 _ _ _ _ _ _ _ _ _ _ _ _ _ _ _ _ _)
   | (with_reducible exact standbyref32_CheckSource.mono _ _ _ _ _ _)
   | (with_reducible exact standbyref32_has.mono _ _ _)
   | (with_reducible exact LeO.refl _)
   | (with_reducible exact LeO.none _)
   | (with_reducible refine LeO.ite ?_ ?_)
   | (with_reducible refine LeO.bind ?_ (fun _ => ?_))
   | exact ih0 _ _ _ _ _ _ _ _ _ _ _ _
   | exact ih1 _ _ _ _ _ _ _ _ _ _ _ _
   | exact ih2 _ _ _ _ _ _ _ _ _ _ _ _ _ _ _ _ _
   | exact ih3 _ _ _ _ _ _ _ _ _ _ _ _ _ _ _ _ _
   | exact ih4 _ _ _ _ _ _ _ _ _ _ _ _ _ _ _ _ _
   | exact standbyref32_CheckSource.mono _ _ _ _ _ _
   | exact standbyref32_has.mono _ _ _
   | exact LeO.none _
   | refine LeO.ite ?_ ?_
   | refine LeO.bind ?_ (fun _ => ?_)
  ·intro y0 y1 y2 y3 y4 y5 y6 y7 y8 y9 y10 y11 y12 y13 y14 y15 y16
   unfold standbyref32_Learn.l0
   repeat' first
   | (with_reducible exact ih0 _ _ _ _ _ _ _ _ _ _ _ _)
   | (with_reducible exact ih1 _ _ _ _ _ _ _ _ _ _ _ _)
   | (with_reducible exact ih2 _ _ _ _ _ _ _ _ _ _ _ _ _ _ _ _ _)
   | (with_reducible exact ih3 _ _ _ _ _ _ _ _ _ _ _ _ _ _ _ _ _)
   | (with_reducible exact ih4 _ _ _ _ _ _ _ _ _ _ _ _ _ _ _ _ _)
   | (with_reducible exact standbyref32_CheckSource.mono _ _ _ _ _ _)
   | (with_reducible exact standbyref32_has.mono _ _ _)
   | (with_reducible exact LeO.refl _)
   | (with_reducible exact LeO.none _)
   | (with_reducible refine LeO.ite ?_ ?_)
   | (with_reducible refine LeO.bind ?_ (fun _ => ?_))
   | exact ih0 _ _ _ _ _ _ _ _ _ _ _ _
   | exact ih1 _ _ _ _ _ _ _ _ _ _ _ _
   | exact ih2 _ _ _ _ _ _ _ _ _ _ _ _ _ _ _ _ _
   | exact ih3 _ _ _ _ _ _ _ _ _ _ _ _ _ _ _ _ _
   | exact ih4 _ _ _ _ _ _ _ _ _ _ _ _ _ _ _ _ _
   | exact standbyref32_CheckSource.mono _ _ _ _ _ _
   | exact standbyref32_has.mono _ _ _
   | exact LeO.none _
   | refine LeO.ite ?_ ?_
   | refine LeO.bind ?_ (fun _ => ?_)
theorem standbyref32_Learn.mono : ∀ a0 a1 a2 a3 a4 a5 a6 a7 a8 a9 a10 a11 a12 k, LeO (standbyref32_Learn.f k a0 a1 a2 a3 a4 a5 a6 a7 a8 a9 a10 a11 a12) (standbyref32_Learn.f (k + 1) a0 a1 a2 a3 a4 a5 a6 a7 a8 a9 a10 a11 a12) := by
 intro a0 a1 a2 a3 a4 a5 a6 a7 a8 a9 a10 a11 a12 k
 obtain ⟨ih0, ih1, ih2, ih3, ih4⟩ := standbyref32_Learn.mono_l k
 unfold standbyref32_Learn.f
 repeat' first
   | (with_reducible exact ih0 _ _ _ _ _ _ _ _ _ _ _ _)
   | (with_reducible exact ih1 _ _ _ _ _ _ _ _ _ _ _ _)
   | (with_reducible exact ih2 _ _ _ _ _ _ _ _ _ _ _ _ _ _ _ _ _)
   | (with_reducible exact ih3 _ _ _ _ _ _ _ _ _ _ _ _ _ _ _ _ _)
   | (with_reducible exact ih4 _ _ _ _ _ _ _ _ _ _ _ _ _ _ _ _ _)
   | (with_reducible exact standbyref32_CheckSource.mono _ _ _ _ _ _)
   | (with_reducible exact standbyref32_has.mono _ _ _)
   | (with_reducible exact LeO.refl _)
   | (with_reducible exact LeO.none _)
   | (with_reducible refine LeO.ite ?_ ?_)
   | (with_reducible refine LeO.bind ?_ (fun _ => ?_))
   | exact ih0 _ _ _ _ _ _ _ _ _ _ _ _
   | exact ih1 _ _ _ _ _ _ _ _ _ _ _ _
   | exact ih2 _ _ _ _ _ _ _ _ _ _ _ _ _ _ _ _ _
   | exact ih3 _ _ _ _ _ _ _ _ _ _ _ _ _ _ _ _ _
   | exact ih4 _ _ _ _ _ _ _ _ _ _ _ _ _ _ _ _ _
   | exact standbyref32_CheckSource.mono _ _ _ _ _ _
   | exact standbyref32_has.mono _ _ _
   | exact LeO.none _
   | refine LeO.ite ?_ ?_
   | refine LeO.bind ?_ (fun _ => ?_)
def standbyref32_Learn.T7 : Bool × List (List Nat × List Nat) := (true, [([], []), ([0], [0]), ([], []), ([2], [2]), ([0, 1], []), ([4, 1, 0, 1], [1, 4]), ([0, 1, 4, 5], []), ([6, 5, 0, 1, 4, 5], [6]), ([0, 1, 2, 3, 4, 5, 6, 7], []), ([8, 3, 7, 0, 1, 2, 3, 4, 5, 6, 7], [3, 8])])
def standbyref32_Learn.B7 : List Nat := [0, 1, 0, 4, 3, 19, 51, 115, 255, 511]
theorem standbyref32_Learn.tab7 : rtab .any (opsOf Try.f30 7) = standbyref32_Learn.T7 := by kernel_rfl
theorem standbyref32_Learn.bits7 : waitsOk standbyref32_Learn.T7.2 standbyref32_Learn.B7 = true := by kernel_rfl
def standbyref32_Learn.T11 : Bool × List (List Nat × List Nat) := (true, [([], []), ([], []), ([], []), ([2], [2]), ([1, 3], [1, 3]), ([4], [4]), ([0, 4, 0], [0]), ([5, 6, 0, 1, 2, 3, 4, 5, 6], [5])])
def standbyref32_Learn.B11 : List Nat := [0, 0, 0, 4, 14, 30, 31, 127]
theorem standbyref32_Learn.tab11 : rtab .any (opsOf Try.f30 11) = standbyref32_Learn.T11 := by kernel_rfl
theorem standbyref32_Learn.bits11 : waitsOk standbyref32_Learn.T11.2 standbyref32_Learn.B11 = true := by kernel_rfl
def standbyref32_Learn.T13 : Bool × List (List Nat × List Nat) := (true, [([], []), ([0], [0]), ([], []), ([2], [2]), ([], []), ([4], [4]), ([3, 5], [3, 5]), ([0, 1], []), ([7, 1, 0, 1], [1, 7]), ([0, 1, 2, 3, 4, 5, 6, 7, 8], []), ([9, 6, 8, 0, 1, 2, 3, 4, 5, 6, 7, 8], [6, 9]), ([0, 1, 2, 3, 4, 5, 6, 7, 8, 9, 10], []), ([11, 10, 0, 1, 2, 3, 4, 5, 6, 7, 8, 9, 10], [11])])
def standbyref32_Learn.B13 : List Nat := [0, 1, 0, 4, 0, 16, 60, 3, 131, 511, 1023, 2047, 4095]
theorem standbyref32_Learn.tab13 : rtab .any (opsOf Try.f30 13) = standbyref32_Learn.T13 := by kernel_rfl
theorem standbyref32_Learn.bits13 : waitsOk standbyref32_Learn.T13.2 standbyref32_Learn.B13 = true := by kernel_rfl
def standbyref32_Learn.T17 : Bool × List (List Nat × List Nat) := (true, [([], []), ([0], [0]), ([], []), ([1, 2], [1, 2]), ([3], [3]), ([], []), ([5], [5]), ([4, 6], [4, 6])])
def standbyref32_Learn.B17 : List Nat := [0, 1, 0, 7, 15, 0, 32, 127]
theorem standbyref32_Learn.tab17 : rtab .any (opsOf Try.f30 17) = standbyref32_Learn.T17 := by kernel_rfl
theorem standbyref32_Learn.bits17 : waitsOk standbyref32_Learn.T17.2 standbyref32_Learn.B17 = true := by kernel_rfl
def standbyref32_Learn.T18 : Bool × List (List Nat × List Nat) := (true, [([], []), ([0], [0]), ([], []), ([2], [2]), ([], []), ([3, 4], [3, 4]), ([5], [5]), ([6], [6]), ([1, 7], [1, 7]), ([0, 1, 2, 3, 4, 5, 6, 7, 8], []), ([9, 8, 8, 0, 1, 2, 3, 4, 5, 6, 7, 8], [8, 9])])
def standbyref32_Learn.B18 : List Nat := [0, 1, 0, 4, 0, 28, 60, 124, 255, 511, 1023]
theorem standbyref32_Learn.tab18 : rtab .any (opsOf Try.f30 18) = standbyref32_Learn.T18 := by kernel_rfl
theorem standbyref32_Learn.bits18 : waitsOk standbyref32_Learn.T18.2 standbyref32_Learn.B18 = true := by kernel_rfl
set_option maxHeartbeats 8000000 in
set_option maxRecDepth 100000 in
theorem standbyref32_Learn.calls (k : Nat) (aR : Int) (aT : Int) (cI : Nat → Prop) (bV : Option Addr) (bQ : Nat) (aM : List Int) (aU : Int) (aW : Int) (aX : Int) (bI : Int) (bO : Int) (bP : Int) (aQ : Int) (bD : Int) (q7 : Unit) (q1_6 : Value) (q8 : Unit) (q1_7 : Value) (r1 : Int) (r2 : Int) (r3 : List Int) (r4 : Int) (r5 : Int) (r6 : List (S53)) (w : World) (rD : Kd.V (Kd.int .i64) 3 w w.heap.size (fun k_ => cI k_) (.slice bV aM.length bQ) aM) (h : standbyref32_Learn.f k aR aT aM aU aW aX bI bO bP aQ bD q7 q8 = some (r1, r2, r3, r4, r5, r6)) :
  Calls Try.prog 30 #[.agg #[.int .i64 aR, .int .i64 aT, .slice bV aM.length bQ, .int .i64 aU, .int .i64 aW], .agg #[.int .i64 aX, .int .i64 bI, .int .i64 bO, .int .i64 bP, .int .i64 aQ, .int .i64 bD, q1_6, q1_7]] w fun e w' => ∃ v2_ v5_ : Value, e = .returned (.tuple #[.agg #[.int .i64 r1, .int .i64 r2, v2_, .int .i64 r4, .int .i64 r5], v5_]) ∧ Kd.V (Kd.int .i64) 3 w' w.heap.size (fun k_ => (cI k_ ∨ w.heap.size ≤ k_) ∧ some k_ ≠ (v5_ : Value).ownBlock) v2_ r3 ∧ Kd.R k53 53 w' w.heap.size (fun k_ => (w.heap.size ≤ k_)) v5_ r6 ∧ Below w.heap.size w w' := by
 have hu24 := Try.underlying24
 have hu53 := Try.underlying53
 have b4 := Aside0.mk (show Kd.V (Kd.int .i64) 3 w w.heap.size (fun k_ => (cI k_ ∨ w.heap.size ≤ k_)) (.slice bV aM.length bQ) aM from Kd.V_mono rD (fun k_ hk => .inl hk))
 have HB := Aside0.mk (Below.refl w.heap.size w)
 have H : ((standbyref32_CheckSource.f k aR aT aM aU aW).bind fun cN => (if cN = 0 then (if bI = aT then (if bD < aR then (standbyref32_Learn.j0 k true aR aT aM aU aW aX bI bO bP aQ bD) else (standbyref32_Learn.j0 k (decide (bD > 1073741824)) aR aT aM aU aW aX bI bO bP aQ bD)) else (standbyref32_Learn.j0 k true aR aT aM aU aW aX bI bO bP aQ bD)) else (standbyref32_Learn.j0 k true aR aT aM aU aW aX bI bO bP aQ bD))) = some (r1, r2, r3, r4, r5, r6) := h
 clear h
 have HC3 := Aside0.mk H
 clear H
 go_enter Try.func30, Try.ntmps30
 go_upto_region 1 with (first | ((with_reducible refine gate_dst (N := 2) rfl ?_); refine box_event ?hg (N := 2) ?hd (cs := #[.int .i64 aR, .int .i64 aT, .slice bV aM.length bQ, .int .i64 aU, .int .i64 aW]) (t := 24) ?hr ?_; (case hd => rfl); (case hg => rfl); (case hr => first | (go_simp; done) | (go_simp; rfl)); intro bA hg w4 hbox hb; replace b4 := Aside0.mk (Kd.V_below (Kd.V_elderB (mV b4.out) bA (Nat.le_of_eq hg.symm)) hb); have aC := Aside0.mk (hbox); have GW408 := gZ HB hg; have GE408 := gZ HB hg; replace HB := tB HB hb; clear hb hbox hg) | ((with_reducible refine gate_dst (N := 3) rfl ?_); refine box_event ?hg (N := 3) ?hd (cs := #[.int .i64 aX, .int .i64 bI, .int .i64 bO, .int .i64 bP, .int .i64 aQ, .int .i64 bD, q1_6, q1_7]) (t := 53) ?hr ?_; (case hd => rfl); (case hg => rfl); (case hr => first | (go_simp; done) | (go_simp; rfl)); intro aV hg w5 hbox hb; replace b4 := Aside0.mk (Kd.V_below (Kd.V_elderB (mV b4.out) aV (Nat.le_of_eq hg.symm)) hb); have aE := Aside0.mk (hbox); have GW409 := gZ HB hg; have GE409 := gZ HB hg; replace HB := tB HB hb; have bK := nL aC hg; have bL := nG aC hg; replace aC := tK aC hb; clear hb hbox hg) | ((with_reducible refine gate_dst (N := 4) rfl ?_); refine box_event ?hg (N := 4) ?hd (cs := #[.int .i64 0, .int .i64 0, .slice none 0 0, .int .i64 0, .int .i64 0]) (t := 24) ?hr ?_; (case hd => rfl); (case hg => rfl); (case hr => first | (go_simp; done) | (go_simp; rfl)); intro bB hg w6 hbox hb; replace b4 := Aside0.mk (Kd.V_below (Kd.V_elderB (mV b4.out) bB (Nat.le_of_eq hg.symm)) hb); have aH := Aside0.mk (hbox); have GW410 := gZ HB hg; have GE410 := gZ HB hg; replace HB := tB HB hb; have bC := nL aC hg; have bM := nG aC hg; replace aC := tK aC hb; have aZ := nL aE hg; have bG := nG aE hg; replace aE := tK aE hb; clear hb hbox hg))
 (try simp only [Act.put, sA, sB, sC])
 go_cut [29] (fun v29 wc => ∃ (kq : Nat) (jO : Bool), v29 = .bool jO ∧ Aside0 (standbyref32_Learn.j0 kq jO aR aT aM aU aW aX bI bO bP aQ bD = some (r1, r2, r3, r4, r5, r6)) ∧ Aside0 (kq ≤ k) ∧ Aside0 (Kd.V (Kd.int .i64) 3 wc w.heap.size (fun k_ => (cI k_ ∨ w.heap.size ≤ k_) ∧ k_ ≠ bA ∧ k_ ≠ aV ∧ k_ ≠ bB) (.slice bV aM.length bQ) aM) ∧ Aside0 (wc.heap[bA]? = some (.cells #[.int .i64 aR, .int .i64 aT, (.slice bV aM.length bQ), .int .i64 aU, .int .i64 aW] 24 (0, 0))) ∧ Aside0 (wc.heap[aV]? = some (.cells #[.int .i64 aX, .int .i64 bI, .int .i64 bO, .int .i64 bP, .int .i64 aQ, .int .i64 bD, q1_6, q1_7] 53 (0, 0))) ∧ Aside0 (wc.heap[bB]? = some (.cells #[.int .i64 0, .int .i64 0, (.slice none 0 0), .int .i64 0, .int .i64 0] 24 (0, 0))) ∧ Aside0 (Below w.heap.size w wc))
 case first =>
  have H := HC3.out
  clear HC3
  replace H := Option.bind_eq_some_iff.mp H
  obtain ⟨cN, A70, H⟩ := H
  (try dsimp only at H)
  have A7 := Aside0.mk A70
  clear A70
  by_cases c8 : cN = 0
  ·rw [if_pos c8] at H
   have c8b0 : (cN == 0) = true := beq_iff_eq.mpr c8
   have c8b1 : (cN != 0) = false := bne_eq_false_iff_eq.mpr c8
   clear c8
   (first | rw [c8b0] | (simp only [i64_w, i32_w]; rw [c8b0]) | skip)
   by_cases c9 : bI = aT
   ·rw [if_pos c9] at H
    have c9b0 : (bI == aT) = true := beq_iff_eq.mpr c9
    have c9b1 : (bI != aT) = false := bne_eq_false_iff_eq.mpr c9
    clear c9
    by_cases c10 : bD < aR
    ·rw [if_pos c10] at H
     have m0 : decide (bD < aR) = true := decide_eq_true c10
     clear c10
     have H' := Aside0.mk H
     clear H
     have hnb11 := bK.out
     have hnc11 := bL.out
     have hnb12 := bC.out
     have hnc12 := bM.out
     obtain ⟨eU, eV, eW, eX, eY⟩ := cz5 aC.out
     obtain ⟨eZ, e0, e1, e3, e5⟩ := fz5 aC.out
     go_wp2_with (first | ((with_reducible refine gate_callee (f := 19) rfl ?_); refine goesL_ (some 9) rfl rfl Try.func19 (by kernel_rfl) rfl #[.agg #[.int .i64 aR, .int .i64 aT, .slice bV aM.length bQ, .int .i64 aU, .int .i64 aW]] rfl (by (try simp only [List.map_toArray, List.map_cons, List.map_nil]); first | done | rfl | (simp only [List.length_drop, List.length_take]; rfl)) ?_; (with_reducible refine (standbyref32_CheckSource.calls k aR aT _ _ aM aU aW cN _ ?side1 ?side2 A7.out).mono ?_); (case side1 => repeat (first | exact (Kd.V_reads' b4.out).2.2 | (with_reducible refine Kd.C_alloc ?_ _) | (with_reducible refine Kd.C_drewN ?_ _) | (with_reducible refine Kd.C_drew ?_))); (case side2 => exact (Kd.V_reads' b4.out).2.1); rintro e w14 ⟨rfl, hb⟩; refine ⟨_, rfl, ?_⟩; replace b4 := tV b4 hb; replace aC := tK aC hb; replace aE := tK aE hb; replace aH := tK aH hb; replace HB := tB HB hb; (try clear hb); (try clear hb2); (try clear hk); (try clear hi); have hnb15 := aZ.out; have hnc15 := bG.out; obtain ⟨e7, e8, e9, fA, fB, fC, fD, fE⟩ := cz8 aE.out; obtain ⟨fF, fG, fH, fI, fJ, fK, fL, fM⟩ := fz8 aE.out; obtain ⟨fN, fO, fP, fQ, fR⟩ := cz5 aC.out; obtain ⟨fS, fT, fU, fV, fW⟩ := fz5 aC.out))
     go_meet
     case rel => exact ⟨_, (true), (by first | rfl | (simp; done) | (simp [*]; done)), H', ⟨by first | omega | exact Nat.le_refl _⟩, ⟨by refine mV ?_; exact Kd.V_mono b4.out (fun _ hk => ⟨hk.1.1.1, ⟨hk.1.1.2, ⟨hk.1.2, hk.2⟩⟩⟩)⟩, ⟨by refine mK ?_; exact aC.out⟩, ⟨by refine mK ?_; exact aE.out⟩, ⟨by refine mK ?_; exact aH.out⟩, ⟨kB HB.out⟩⟩
    ·rw [if_neg c10] at H
     have m0 : decide (bD < aR) = false := decide_eq_false c10
     clear c10
     have H' := Aside0.mk H
     clear H
     have hnb18 := bK.out
     have hnc18 := bL.out
     have hnb19 := bC.out
     have hnc19 := bM.out
     obtain ⟨fX, fY, fZ, f0, f1⟩ := cz5 aC.out
     obtain ⟨f2, f3, f4, f5, f6⟩ := fz5 aC.out
     go_wp2_with (first | ((with_reducible refine gate_callee (f := 19) rfl ?_); refine goesL_ (some 9) rfl rfl Try.func19 (by kernel_rfl) rfl #[.agg #[.int .i64 aR, .int .i64 aT, .slice bV aM.length bQ, .int .i64 aU, .int .i64 aW]] rfl (by (try simp only [List.map_toArray, List.map_cons, List.map_nil]); first | done | rfl | (simp only [List.length_drop, List.length_take]; rfl)) ?_; (with_reducible refine (standbyref32_CheckSource.calls k aR aT _ _ aM aU aW cN _ ?side1 ?side2 A7.out).mono ?_); (case side1 => repeat (first | exact (Kd.V_reads' b4.out).2.2 | (with_reducible refine Kd.C_alloc ?_ _) | (with_reducible refine Kd.C_drewN ?_ _) | (with_reducible refine Kd.C_drew ?_))); (case side2 => exact (Kd.V_reads' b4.out).2.1); rintro e w21 ⟨rfl, hb⟩; refine ⟨_, rfl, ?_⟩; replace b4 := tV b4 hb; replace aC := tK aC hb; replace aE := tK aE hb; replace aH := tK aH hb; replace HB := tB HB hb; (try clear hb); (try clear hb2); (try clear hk); (try clear hi); have hnb22 := aZ.out; have hnc22 := bG.out; obtain ⟨f7, f8, f9, gA, gB, gC, gD, gE⟩ := cz8 aE.out; obtain ⟨gF, gG, gH, gI, gJ, gK, gL, gM⟩ := fz8 aE.out; obtain ⟨gN, gO, gP, gQ, gR⟩ := cz5 aC.out; obtain ⟨gS, gT, gU, gV, gW⟩ := fz5 aC.out))
     go_meet
     case rel => exact ⟨_, (decide (bD > 1073741824)), (by first | rfl | (simp; done) | (simp [*]; done)), H', ⟨by first | omega | exact Nat.le_refl _⟩, ⟨by refine mV ?_; exact Kd.V_mono b4.out (fun _ hk => ⟨hk.1.1.1, ⟨hk.1.1.2, ⟨hk.1.2, hk.2⟩⟩⟩)⟩, ⟨by refine mK ?_; exact aC.out⟩, ⟨by refine mK ?_; exact aE.out⟩, ⟨by refine mK ?_; exact aH.out⟩, ⟨kB HB.out⟩⟩
   ·rw [if_neg c9] at H
    have c9b0 : (bI == aT) = false := beq_eq_false_iff_ne.mpr c9
    have c9b1 : (bI != aT) = true := bne_iff_ne.mpr c9
    have H' := Aside0.mk H
    clear H
    have hnb25 := bK.out
    have hnc25 := bL.out
    have hnb26 := bC.out
    have hnc26 := bM.out
    obtain ⟨gX, gY, g0, g1, g2⟩ := cz5 aC.out
    obtain ⟨g3, g4, g5, g6, g7⟩ := fz5 aC.out
    go_wp2_with (first | ((with_reducible refine gate_callee (f := 19) rfl ?_); refine goesL_ (some 9) rfl rfl Try.func19 (by kernel_rfl) rfl #[.agg #[.int .i64 aR, .int .i64 aT, .slice bV aM.length bQ, .int .i64 aU, .int .i64 aW]] rfl (by (try simp only [List.map_toArray, List.map_cons, List.map_nil]); first | done | rfl | (simp only [List.length_drop, List.length_take]; rfl)) ?_; (with_reducible refine (standbyref32_CheckSource.calls k aR aT _ _ aM aU aW cN _ ?side1 ?side2 A7.out).mono ?_); (case side1 => repeat (first | exact (Kd.V_reads' b4.out).2.2 | (with_reducible refine Kd.C_alloc ?_ _) | (with_reducible refine Kd.C_drewN ?_ _) | (with_reducible refine Kd.C_drew ?_))); (case side2 => exact (Kd.V_reads' b4.out).2.1); rintro e w28 ⟨rfl, hb⟩; refine ⟨_, rfl, ?_⟩; replace b4 := tV b4 hb; replace aC := tK aC hb; replace aE := tK aE hb; replace aH := tK aH hb; replace HB := tB HB hb; (try clear hb); (try clear hb2); (try clear hk); (try clear hi); have hnb29 := aZ.out; have hnc29 := bG.out; obtain ⟨g8, g9, hA, hB, hC, hD, hE, hF⟩ := cz8 aE.out; obtain ⟨hG, hH, hI, cX, cY, cZ, c0, dA⟩ := fz8 aE.out; obtain ⟨hJ, hL, hM, hN, hO⟩ := cz5 aC.out; obtain ⟨dB, dC, dD, dE, dF⟩ := fz5 aC.out))
    go_meet
    case rel => exact ⟨_, (true), (by first | rfl | (simp; done) | (simp [*]; done)), H', ⟨by first | omega | exact Nat.le_refl _⟩, ⟨by refine mV ?_; exact Kd.V_mono b4.out (fun _ hk => ⟨hk.1.1.1, ⟨hk.1.1.2, ⟨hk.1.2, hk.2⟩⟩⟩)⟩, ⟨by refine mK ?_; exact aC.out⟩, ⟨by refine mK ?_; exact aE.out⟩, ⟨by refine mK ?_; exact aH.out⟩, ⟨kB HB.out⟩⟩
  ·rw [if_neg c8] at H
   have c8b0 : (cN == 0) = false := beq_eq_false_iff_ne.mpr c8
   have c8b1 : (cN != 0) = true := bne_iff_ne.mpr c8
   (first | rw [c8b0] | (simp only [i64_w, i32_w]; rw [c8b0]) | skip)
   have H' := Aside0.mk H
   clear H
   have hnb32 := bK.out
   have hnc32 := bL.out
   have hnb33 := bC.out
   have hnc33 := bM.out
   obtain ⟨hP, hQ, hR, hS, hT⟩ := cz5 aC.out
   obtain ⟨dG, dH, dI, dJ, dK⟩ := fz5 aC.out
   go_wp2_with (first | ((with_reducible refine gate_callee (f := 19) rfl ?_); refine goesL_ (some 9) rfl rfl Try.func19 (by kernel_rfl) rfl #[.agg #[.int .i64 aR, .int .i64 aT, .slice bV aM.length bQ, .int .i64 aU, .int .i64 aW]] rfl (by (try simp only [List.map_toArray, List.map_cons, List.map_nil]); first | done | rfl | (simp only [List.length_drop, List.length_take]; rfl)) ?_; (with_reducible refine (standbyref32_CheckSource.calls k aR aT _ _ aM aU aW cN _ ?side1 ?side2 A7.out).mono ?_); (case side1 => repeat (first | exact (Kd.V_reads' b4.out).2.2 | (with_reducible refine Kd.C_alloc ?_ _) | (with_reducible refine Kd.C_drewN ?_ _) | (with_reducible refine Kd.C_drew ?_))); (case side2 => exact (Kd.V_reads' b4.out).2.1); rintro e w35 ⟨rfl, hb⟩; refine ⟨_, rfl, ?_⟩; replace b4 := tV b4 hb; replace aC := tK aC hb; replace aE := tK aE hb; replace aH := tK aH hb; replace HB := tB HB hb; (try clear hb); (try clear hb2); (try clear hk); (try clear hi)))
   go_meet
   case rel => exact ⟨_, (true), (by first | rfl | (simp; done) | (simp [*]; done)), H', ⟨by first | omega | exact Nat.le_refl _⟩, ⟨by refine mV ?_; exact Kd.V_mono b4.out (fun _ hk => ⟨hk.1.1.1, ⟨hk.1.1.2, ⟨hk.1.2, hk.2⟩⟩⟩)⟩, ⟨by refine mK ?_; exact aC.out⟩, ⟨by refine mK ?_; exact aE.out⟩, ⟨by refine mK ?_; exact aH.out⟩, ⟨kB HB.out⟩⟩
 case rest =>
  clear HC3
  try clear c1
  try clear q1
  try clear c2
  try clear p2
  try clear c3
  try clear c8
  try clear c8b0
  try clear c8b1
  try clear c9
  try clear c9b0
  try clear c9b1
  try clear c10
  try clear m0
  try clear c11
  try clear c12
  try clear c15
  try clear c18
  try clear c19
  try clear c22
  try clear c25
  try clear c26
  try clear c29
  try clear c30
  try clear c32
  try clear c33
  try clear eU eV eW eX eY
  try clear e7 e8 e9 fA fB fC fD fE
  try clear fN fO fP fQ fR
  try clear fX fY fZ f0 f1
  try clear f7 f8 f9 gA gB gC gD gE
  try clear gN gO gP gQ gR
  try clear gX gY g0 g1 g2
  try clear g8 g9 hA hB hC hD hE hF
  try clear hJ hL hM hN hO
  try clear hP hQ hR hS hT
  try clear eZ e0 e1 e3 e5
  try clear fF fG fH fI fJ fK fL fM
  try clear fS fT fU fV fW
  try clear f2 f3 f4 f5 f6
  try clear gF gG gH gI gJ gK gL gM
  try clear gS gT gU gV gW
  try clear g3 g4 g5 g6 g7
  try clear hG hH hI cX cY cZ c0 dA
  try clear dB dC dD dE dF
  try clear dG dH dI dJ dK
  obtain ⟨kq, jO, rfl, HA, HJ2, aA, aC, aE, aH, HB⟩ := hcut
  cases kq with
  | zero => exact absurd HA.out (by simp [standbyref32_Learn.j0])
  | succ kj2 =>
   have H := HA.out
   clear HA
   simp only [standbyref32_Learn.j0] at H
   by_cases c36 : jO = true
   ·subst c36
    have H1 : (some (aR, aT, aM, aU, aW, ([] : List (S53)))) = some (r1, r2, r3, r4, r5, r6) := by rw [if_pos rfl] at H; exact H
    clear H
    have H := H1
    clear H1
    simp only [Option.some.injEq, Prod.mk.injEq] at H
    obtain ⟨rfl, rfl, rfl, rfl, rfl, rfl⟩ := H
    have hnb37 := bK.out
    have hnc37 := bL.out
    have hnb38 := bC.out
    have hnc38 := bM.out
    obtain ⟨lX, lY, lZ, l1, l2⟩ := cz5 aC.out
    obtain ⟨dM, dN, dO, dP, dQ⟩ := fz5 aC.out
    have hnb40 := bG.out
    have hnc40 := aZ.out
    obtain ⟨l3, l4, l5, l6, l7⟩ := cz5 aH.out
    obtain ⟨dR, dS, dT, dU, dV⟩ := fz5 aH.out
    go_wp2
    refine bodyPost_ret (results_ct rfl _ _ bB 24 #[.int .i64 aR, .int .i64 aT, .slice bV aM.length bQ, .int .i64 aU, .int .i64 aW] (0, 0) _ rfl (by exact (mK (pt5_0_5 aH.out))) Try.underlying24 rfl (by kernel_rfl)) rfl ?_
    exact ⟨_, _, by first | rfl | (simp [errW_none, errW_some] <;> rfl) | (simp [*, errW_none, errW_some] <;> rfl), by refine mV ?_; exact Kd.V_mono (vf5 bB 0 (Kd.V_mono aA.out (fun k_ hk => (⟨hk, hk.2.2.2⟩ : _ ∧ k_ ≠ bB))) (fun _ hk => hk.2) (.int .i64 aR) (.int .i64 aT) (.slice bV aM.length bQ) (.int .i64 aU) (.int .i64 aW)) (fun _ hk => ⟨hk.1.1, (by simp [Value.ownBlock])⟩), by first | exact Kd.R_nil _ _ _ _ _ | exact Kd.N_nil _ _ _ _ _ | exact Kd.V_nil _ _ _ _ _ | exact Kd.Q_nil _ _ _ _ _ | exact Kd.S_nil _ _ _ _ _, (kB HB.out)⟩
   ·replace c36 := Bool.eq_false_iff.mpr c36
    subst c36
    have H1 : (if aX = 9 then (standbyref32_Learn.j1 kj2 false aR aT aM aU aW aX bI bO bP aQ bD) else (if aX = 11 then (standbyref32_Learn.j1 kj2 false aR aT aM aU aW aX bI bO bP aQ bD) else (standbyref32_Learn.j1 kj2 (aX != 12) aR aT aM aU aW aX bI bO bP aQ bD))) = some (r1, r2, r3, r4, r5, r6) := by rw [if_neg (show ¬ (false = true) by decide)] at H; exact H
    clear H
    have H := H1
    clear H1
    have HC42 := Aside0.mk H
    clear H
    go_upto_region 3 with (fail)
    go_cut [43] (fun v43 wc => ∃ (kq : Nat) (eN : Bool), v43 = .bool eN ∧ Aside0 (standbyref32_Learn.j1 kq eN aR aT aM aU aW aX bI bO bP aQ bD = some (r1, r2, r3, r4, r5, r6)) ∧ Aside0 (kq ≤ kj2) ∧ Aside0 (Kd.V (Kd.int .i64) 3 wc w.heap.size (fun k_ => (cI k_ ∨ w.heap.size ≤ k_) ∧ k_ ≠ bA ∧ k_ ≠ aV ∧ k_ ≠ bB) (.slice bV aM.length bQ) aM) ∧ Aside0 (wc.heap[bA]? = some (.cells #[.int .i64 aR, .int .i64 aT, (.slice bV aM.length bQ), .int .i64 aU, .int .i64 aW] 24 (0, 0))) ∧ Aside0 (wc.heap[aV]? = some (.cells #[.int .i64 aX, .int .i64 bI, .int .i64 bO, .int .i64 bP, .int .i64 aQ, .int .i64 bD, q1_6, q1_7] 53 (0, 0))) ∧ Aside0 (wc.heap[bB]? = some (.cells #[.int .i64 0, .int .i64 0, (.slice none 0 0), .int .i64 0, .int .i64 0] 24 (0, 0))) ∧ Aside0 (Below w.heap.size w wc))
    case first =>
     have H := HC42.out
     clear HC42
     by_cases c43 : aX = 9
     ·rw [if_pos c43] at H
      have dW : (aX == 9) = true := beq_iff_eq.mpr c43
      have o1 : (aX != 9) = false := bne_eq_false_iff_eq.mpr c43
      clear c43
      (first | rw [dW] | (simp only [i64_w, i32_w]; rw [dW]) | skip)
      have H' := Aside0.mk H
      clear H
      have hnb44 := bL.out
      have hnc44 := bK.out
      have hnb45 := aZ.out
      have hnc45 := bG.out
      obtain ⟨l8, l9, mA, mB, mC, mD, mE, mF⟩ := cz8 aE.out
      obtain ⟨dX, dY, dZ, d0, d1, d2, d3, d4⟩ := fz8 aE.out
      go_wp2
      go_meet
      case rel => exact ⟨_, (false), (by first | rfl | (simp; done) | (simp [*]; done)), H', ⟨by have := HJ2.out; first | omega | exact Nat.le_refl _⟩, ⟨by refine mV ?_; exact aA.out⟩, ⟨by refine mK ?_; exact aC.out⟩, ⟨by refine mK ?_; exact aE.out⟩, ⟨by refine mK ?_; exact aH.out⟩, ⟨kB HB.out⟩⟩
     ·rw [if_neg c43] at H
      have dW : (aX == 9) = false := beq_eq_false_iff_ne.mpr c43
      have o1 : (aX != 9) = true := bne_iff_ne.mpr c43
      (first | rw [dW] | (simp only [i64_w, i32_w]; rw [dW]) | skip)
      by_cases c47 : aX = 11
      ·rw [if_pos c47] at H
       have o2 : (aX == 11) = true := beq_iff_eq.mpr c47
       have o3 : (aX != 11) = false := bne_eq_false_iff_eq.mpr c47
       clear c47
       have H' := Aside0.mk H
       clear H
       have hnb48 := bL.out
       have hnc48 := bK.out
       have hnb49 := aZ.out
       have hnc49 := bG.out
       obtain ⟨mG, mH, mI, mJ, mL, mM, mN, mO⟩ := cz8 aE.out
       obtain ⟨d5, d6, d7, d8, d9, eA, eB, eC⟩ := fz8 aE.out
       go_wp2
       go_meet
       case rel => exact ⟨_, (false), (by first | rfl | (simp; done) | (simp [*]; done)), H', ⟨by have := HJ2.out; first | omega | exact Nat.le_refl _⟩, ⟨by refine mV ?_; exact aA.out⟩, ⟨by refine mK ?_; exact aC.out⟩, ⟨by refine mK ?_; exact aE.out⟩, ⟨by refine mK ?_; exact aH.out⟩, ⟨kB HB.out⟩⟩
      ·rw [if_neg c47] at H
       have o2 : (aX == 11) = false := beq_eq_false_iff_ne.mpr c47
       have o3 : (aX != 11) = true := bne_iff_ne.mpr c47
       have H' := Aside0.mk H
       clear H
       have hnb51 := bL.out
       have hnc51 := bK.out
       have hnb52 := aZ.out
       have hnc52 := bG.out
       obtain ⟨mP, mQ, mS, mT, mU, mW, mX, mY⟩ := cz8 aE.out
       obtain ⟨eD, eE, eF, eG, eH, eI, eJ, eK⟩ := fz8 aE.out
       go_wp2
       go_meet
       case rel => exact ⟨_, ((aX != 12)), (by first | rfl | (simp; done) | (simp [*]; done)), H', ⟨by have := HJ2.out; first | omega | exact Nat.le_refl _⟩, ⟨by refine mV ?_; exact aA.out⟩, ⟨by refine mK ?_; exact aC.out⟩, ⟨by refine mK ?_; exact aE.out⟩, ⟨by refine mK ?_; exact aH.out⟩, ⟨kB HB.out⟩⟩
    case rest =>
     clear HC42
     try clear c1
     try clear q1
     try clear c2
     try clear p2
     try clear c3
     try clear c4
     try clear c5
     try clear c8
     try clear c8b0
     try clear c8b1
     try clear c9
     try clear c9b0
     try clear c9b1
     try clear c10
     try clear m0
     try clear c11
     try clear c12
     try clear c15
     try clear c18
     try clear c19
     try clear c22
     try clear c25
     try clear c26
     try clear c29
     try clear c30
     try clear c32
     try clear c33
     try clear c36
     try clear c37
     try clear c38
     try clear c40
     try clear c43
     try clear dW
     try clear o1
     try clear c44
     try clear c45
     try clear c47
     try clear o2
     try clear o3
     try clear c48
     try clear c49
     try clear c51
     try clear c52
     try clear eU eV eW eX eY
     try clear e7 e8 e9 fA fB fC fD fE
     try clear fN fO fP fQ fR
     try clear fX fY fZ f0 f1
     try clear f7 f8 f9 gA gB gC gD gE
     try clear gN gO gP gQ gR
     try clear gX gY g0 g1 g2
     try clear g8 g9 hA hB hC hD hE hF
     try clear hJ hL hM hN hO
     try clear hP hQ hR hS hT
     try clear lX lY lZ l1 l2
     try clear l3 l4 l5 l6 l7
     try clear l8 l9 mA mB mC mD mE mF
     try clear mG mH mI mJ mL mM mN mO
     try clear mP mQ mS mT mU mW mX mY
     try clear eZ e0 e1 e3 e5
     try clear fF fG fH fI fJ fK fL fM
     try clear fS fT fU fV fW
     try clear f2 f3 f4 f5 f6
     try clear gF gG gH gI gJ gK gL gM
     try clear gS gT gU gV gW
     try clear g3 g4 g5 g6 g7
     try clear hG hH hI cX cY cZ c0 dA
     try clear dB dC dD dE dF
     try clear dG dH dI dJ dK
     try clear dM dN dO dP dQ
     try clear dR dS dT dU dV
     try clear dX dY dZ d0 d1 d2 d3 d4
     try clear d5 d6 d7 d8 d9 eA eB eC
     try clear eD eE eF eG eH eI eJ eK
     try clear p2
     try clear q1
     obtain ⟨kq, eN, rfl, HA, HJ41, aA, aC, aE, aH, HB⟩ := hcut
     cases kq with
     | zero => exact absurd HA.out (by simp [standbyref32_Learn.j1])
     | succ kj41 =>
      have H := HA.out
      clear HA
      simp only [standbyref32_Learn.j1] at H
      by_cases c54 : eN = true
      ·subst c54
       have H1 : (some (aR, aT, aM, aU, aW, ([] : List (S53)))) = some (r1, r2, r3, r4, r5, r6) := by rw [if_pos rfl] at H; exact H
       clear H
       have H := H1
       clear H1
       simp only [Option.some.injEq, Prod.mk.injEq] at H
       obtain ⟨rfl, rfl, rfl, rfl, rfl, rfl⟩ := H
       have hnb55 := bK.out
       have hnc55 := bL.out
       have hnb56 := bC.out
       have hnc56 := bM.out
       obtain ⟨pB, pC, pD, pE, pF⟩ := cz5 aC.out
       obtain ⟨hU, hV, hW, hX, hY⟩ := fz5 aC.out
       have hnb58 := bG.out
       have hnc58 := aZ.out
       obtain ⟨pG, pH, pI, pJ, pK⟩ := cz5 aH.out
       obtain ⟨hZ, h0, h1, h2, h3⟩ := fz5 aH.out
       go_wp2
       refine bodyPost_ret (results_ct rfl _ _ bB 24 #[.int .i64 aR, .int .i64 aT, .slice bV aM.length bQ, .int .i64 aU, .int .i64 aW] (0, 0) _ rfl (by exact (mK (pt5_0_5 aH.out))) Try.underlying24 rfl (by kernel_rfl)) rfl ?_
       exact ⟨_, _, by first | rfl | (simp [errW_none, errW_some] <;> rfl) | (simp [*, errW_none, errW_some] <;> rfl), by refine mV ?_; exact Kd.V_mono (vf5 bB 0 (Kd.V_mono aA.out (fun k_ hk => (⟨hk, hk.2.2.2⟩ : _ ∧ k_ ≠ bB))) (fun _ hk => hk.2) (.int .i64 aR) (.int .i64 aT) (.slice bV aM.length bQ) (.int .i64 aU) (.int .i64 aW)) (fun _ hk => ⟨hk.1.1, (by simp [Value.ownBlock])⟩), by first | exact Kd.R_nil _ _ _ _ _ | exact Kd.N_nil _ _ _ _ _ | exact Kd.V_nil _ _ _ _ _ | exact Kd.Q_nil _ _ _ _ _ | exact Kd.S_nil _ _ _ _ _, (kB HB.out)⟩
      ·replace c54 := Bool.eq_false_iff.mpr c54
       subst c54
       have H1 : ((standbyref32_Copy.f aR aT aM aU aW).bind fun bN => (if bD > aR then (some (bD, bN.2.1, ([] : List Int), aW, bN.2.2.2.2, ([] : List (S53)))) else (if aX = 9 then ((standbyref32_has.f kj41 aM aQ).bind fun jP => (if jP = true then (standbyref32_Learn.j2 kj41 (decide (aQ ≥ aU)) aR aT aM aU aW aX bI bO bP aQ bD bN.1 bN.2.1 bN.2.2.1 bN.2.2.2.1 bN.2.2.2.2) else (standbyref32_Learn.j2 kj41 false aR aT aM aU aW aX bI bO bP aQ bD bN.1 bN.2.1 bN.2.2.1 bN.2.2.2.1 bN.2.2.2.2))) else (standbyref32_Learn.j2 kj41 false aR aT aM aU aW aX bI bO bP aQ bD bN.1 bN.2.1 bN.2.2.1 bN.2.2.2.1 bN.2.2.2.2)))) = some (r1, r2, r3, r4, r5, r6) := by rw [if_neg (show ¬ (false = true) by decide)] at H; exact H
       clear H
       have H := H1
       clear H1
       replace H := Option.bind_eq_some_iff.mp H
       obtain ⟨⟨bE, bF, aY, b3, bJ⟩, A600, H⟩ := H
       (try dsimp only at H)
       have A60 := Aside0.mk A600
       clear A600
       by_cases c61 : bD > aR
       ·rw [if_pos c61] at H
        have o4 : decide (aR < bD) = true := decide_eq_true c61
        clear c61
        simp only [Option.some.injEq, Prod.mk.injEq] at H
        obtain ⟨rfl, rfl, rfl, rfl, rfl, rfl⟩ := H
        have hnb62 := bK.out
        have hnc62 := bL.out
        have hnb63 := bC.out
        have hnc63 := bM.out
        obtain ⟨pL, pM, pN, pO, pP⟩ := cz5 aC.out
        obtain ⟨h4, h5, h6, h7, h8⟩ := fz5 aC.out
        try go_wp2_with (first | ((with_reducible refine gate_callee (f := 48) rfl ?_); refine goesL_ (some 46) rfl rfl Try.func48 (by kernel_rfl) rfl #[.agg #[.int .i64 aR, .int .i64 aT, .slice bV aM.length bQ, .int .i64 aU, .int .i64 aW]] rfl (by (try simp only [List.map_toArray, List.map_cons, List.map_nil]); first | done | rfl | (simp only [List.length_drop, List.length_take]; rfl)) ?_; (with_reducible refine (standbyref32_Copy.calls aR aT _ _ aM aU aW bE bF aY b3 bJ _ ?side1 ?side2 A60.out).mono ?_); (case side1 => repeat (first | exact (Kd.V_reads' aA.out).2.2 | (with_reducible refine Kd.C_alloc ?_ _) | (with_reducible refine Kd.C_drewN ?_ _) | (with_reducible refine Kd.C_drew ?_))); (case side2 => exact (Kd.V_reads' aA.out).2.1); rintro e w65 ⟨rJ, rfl, ho0, hb⟩; refine ⟨_, rfl, ?_⟩; replace aA := Aside0.mk (Kd.V_elder' (mV aA.out) (Kd.R_base ho0) hb); have cC := Aside0.mk (Kd.R_lower (Kd.R_newM (M := fun k_ => (w.heap.size ≤ k_)) ho0 (kZ HB.out) (fun k_ h_ => h_)) (kZ HB.out)); replace aC := tK aC hb; replace aE := tK aE hb; replace aH := tK aH hb; replace HB := tB HB hb; (try clear hb); (try clear hb2); (try clear hk); (try clear hi); (try clear ho0)) | ((with_reducible refine gate_dst (N := 6) rfl ?_); refine box_event ?hg (N := 6) ?hd (cs := #[.int .i64 0, .int .i64 0, .slice none 0 0, .int .i64 0, .int .i64 0]) (t := 24) ?hr ?_; (case hd => rfl); (case hg => rfl); (case hr => first | (go_simp; done) | (go_simp; rfl)); intro aI hg w66 hbox hb; replace aA := Aside0.mk (Kd.V_below (Kd.V_elderB (mV aA.out) aI (Nat.le_of_eq hg.symm)) hb); replace cC := tR cC hb; have aJ := Aside0.mk (hbox); have rE := gZ HB hg; have rF := gZ HB hg; replace HB := tB HB hb; have aG := nL aC hg; have bS := nG aC hg; replace aC := tK aC hb; have aD := nL aE hg; have bT := nG aE hg; replace aE := tK aE hb; have aN := nL aH hg; have bH := nG aH hg; replace aH := tK aH hb; clear hb hbox hg; have hnb67 := bS.out; have hnc67 := aG.out; have hnb68 := bT.out; have hnc68 := aD.out; have hnb69 := bH.out; have hnc69 := aN.out; obtain ⟨pQ, pR, pS, pT, pU⟩ := cz5 aJ.out; obtain ⟨h9, iA, iB, iC, iD⟩ := fz5 aJ.out; obtain ⟨cL, cM, rK⟩ := Kd.R_slice cC.out; subst rK; have hnb72 := aZ.out; have hnc72 := bG.out; obtain ⟨pV, pW, pX, pY, pZ, p0, p1, p3⟩ := cz8 aE.out; obtain ⟨iE, iF, iG, iH, iI, iJ, iK, iL⟩ := fz8 aE.out; obtain ⟨p4, p5, p6, p7, p8⟩ := cz5 aC.out; obtain ⟨iM, iN, iO, iP, iQ⟩ := fz5 aC.out))
        have n0_ : Aside0 (Kd.V (Kd.int .i64) 3 (((((w66.setCell ⟨aI, 0, none⟩ (.int .i64 bE)).setCell ⟨aI, 1, none⟩ (.int .i64 bF)).setCell ⟨aI, 2, none⟩ (.slice cL aY.length cM)).setCell ⟨aI, 3, none⟩ (.int .i64 b3)).setCell ⟨aI, 4, none⟩ (.int .i64 bJ)) w.heap.size (fun k_ => (cI k_ ∨ w.heap.size ≤ k_) ∧ some k_ ≠ (.slice cL aY.length cM : Value).ownBlock ∧ k_ ≠ bA ∧ k_ ≠ aV ∧ k_ ≠ bB ∧ k_ ≠ aI) (.slice bV aM.length bQ) aM) := ⟨by refine mV ?_; exact Kd.V_mono (vf5 aI 0 (Kd.V_mono aA.out (fun k_ hk => (⟨hk, hk.2⟩ : _ ∧ k_ ≠ aI))) (fun _ hk => hk.2) (.int .i64 bE) (.int .i64 bF) (.slice cL aY.length cM) (.int .i64 b3) (.int .i64 bJ)) (fun _ hk => ⟨hk.1.1.1.1, ⟨hk.1.1.2, ⟨hk.1.1.1.2.1, ⟨hk.1.1.1.2.2.1, ⟨hk.1.1.1.2.2.2, hk.1.2⟩⟩⟩⟩⟩)⟩
        have n1_ : Aside0 (Kd.R (Kd.int .i64) 3 (((((w66.setCell ⟨aI, 0, none⟩ (.int .i64 bE)).setCell ⟨aI, 1, none⟩ (.int .i64 bF)).setCell ⟨aI, 2, none⟩ (.slice cL aY.length cM)).setCell ⟨aI, 3, none⟩ (.int .i64 b3)).setCell ⟨aI, 4, none⟩ (.int .i64 bJ)) w.heap.size (fun k_ => (w.heap.size ≤ k_)) (.slice cL aY.length cM) aY) := ⟨by refine mR ?_; exact Kd.R_mono (rf5 aI 0 (Kd.R_types cC.out aJ.out (by decide)) (fun _ hk => hk.2) (.int .i64 bE) (.int .i64 bF) (.slice cL aY.length cM) (.int .i64 b3) (.int .i64 bJ)) (fun _ hk => hk.1.1)⟩
        have n2_ : Aside0 ((((((w66.setCell ⟨aI, 0, none⟩ (.int .i64 bE)).setCell ⟨aI, 1, none⟩ (.int .i64 bF)).setCell ⟨aI, 2, none⟩ (.slice cL aY.length cM)).setCell ⟨aI, 3, none⟩ (.int .i64 b3)).setCell ⟨aI, 4, none⟩ (.int .i64 bJ)).heap[bA]? = some (.cells #[.int .i64 aR, .int .i64 aT, .slice bV aM.length bQ, .int .i64 aU, .int .i64 aW] 24 (0, 0))) := ⟨by exact (mK (fr (fr (fr (fr (fr aC.out aG.out) aG.out) aG.out) aG.out) aG.out))⟩
        have n3_ : Aside0 ((((((w66.setCell ⟨aI, 0, none⟩ (.int .i64 bE)).setCell ⟨aI, 1, none⟩ (.int .i64 bF)).setCell ⟨aI, 2, none⟩ (.slice cL aY.length cM)).setCell ⟨aI, 3, none⟩ (.int .i64 b3)).setCell ⟨aI, 4, none⟩ (.int .i64 bJ)).heap[aV]? = some (.cells #[.int .i64 aX, .int .i64 bI, .int .i64 bO, .int .i64 bP, .int .i64 aQ, .int .i64 bD, q1_6, q1_7] 53 (0, 0))) := ⟨by exact (mK (fr (fr (fr (fr (fr aE.out aD.out) aD.out) aD.out) aD.out) aD.out))⟩
        have n4_ : Aside0 ((((((w66.setCell ⟨aI, 0, none⟩ (.int .i64 bE)).setCell ⟨aI, 1, none⟩ (.int .i64 bF)).setCell ⟨aI, 2, none⟩ (.slice cL aY.length cM)).setCell ⟨aI, 3, none⟩ (.int .i64 b3)).setCell ⟨aI, 4, none⟩ (.int .i64 bJ)).heap[bB]? = some (.cells #[.int .i64 0, .int .i64 0, .slice none 0 0, .int .i64 0, .int .i64 0] 24 (0, 0))) := ⟨by exact (mK (fr (fr (fr (fr (fr aH.out aN.out) aN.out) aN.out) aN.out) aN.out))⟩
        have n5_ : Aside0 ((((((w66.setCell ⟨aI, 0, none⟩ (.int .i64 bE)).setCell ⟨aI, 1, none⟩ (.int .i64 bF)).setCell ⟨aI, 2, none⟩ (.slice cL aY.length cM)).setCell ⟨aI, 3, none⟩ (.int .i64 b3)).setCell ⟨aI, 4, none⟩ (.int .i64 bJ)).heap[aI]? = some (.cells #[.int .i64 bE, .int .i64 bF, .slice cL aY.length cM, .int .i64 b3, .int .i64 bJ] 24 (0, 0))) := ⟨by exact (mK (pt5_0_5 aJ.out))⟩
        have n6_ : Aside0 (Below w.heap.size w (((((w66.setCell ⟨aI, 0, none⟩ (.int .i64 bE)).setCell ⟨aI, 1, none⟩ (.int .i64 bF)).setCell ⟨aI, 2, none⟩ (.slice cL aY.length cM)).setCell ⟨aI, 3, none⟩ (.int .i64 b3)).setCell ⟨aI, 4, none⟩ (.int .i64 bJ))) := ⟨kB HB.out⟩
        (try clear aA)
        (try clear cC)
        (try clear aC)
        (try clear aE)
        (try clear aH)
        (try clear aJ)
        (try clear HB)
        generalize (((((w66.setCell ⟨aI, 0, none⟩ (.int .i64 bE)).setCell ⟨aI, 1, none⟩ (.int .i64 bF)).setCell ⟨aI, 2, none⟩ (.slice cL aY.length cM)).setCell ⟨aI, 3, none⟩ (.int .i64 b3)).setCell ⟨aI, 4, none⟩ (.int .i64 bJ)) = w75 at n0_ n1_ n2_ n3_ n4_ n5_ n6_ ⊢
        have aA := n0_
        have cC := n1_
        have aC := n2_
        have aE := n3_
        have aH := n4_
        have aJ := n5_
        have HB := n6_
        clear n0_ n1_ n2_ n3_ n4_ n5_ n6_
        have n0_ := Aside0.mk (Kd.V_drew aA.out)
        have n1_ := Aside0.mk (Kd.R_drew cC.out)
        have n2_ := Aside0.mk (blk_drew aC.out)
        have n3_ := Aside0.mk (blk_drew aE.out)
        have n4_ := Aside0.mk (blk_drew aH.out)
        have n5_ := Aside0.mk (blk_drew aJ.out)
        have n6_ := Aside0.mk (below_drew1 HB.out)
        clear aA
        clear cC
        clear aC
        clear aE
        clear aH
        clear aJ
        clear HB
        have aA := n0_
        have cC := n1_
        have aC := n2_
        have aE := n3_
        have aH := n4_
        have aJ := n5_
        have HB := n6_
        clear n0_ n1_ n2_ n3_ n4_ n5_ n6_
        refine start_ (n := 10) (S := fun w' => w'.cell? ⟨aV, 0, none⟩ = some (.int .i64 aX) ∧ w'.cell? ⟨aV, 1, none⟩ = some (.int .i64 bI) ∧ w'.cell? ⟨aV, 2, none⟩ = some (.int .i64 bO) ∧ w'.cell? ⟨aV, 3, none⟩ = some (.int .i64 bP) ∧ w'.cell? ⟨aV, 4, none⟩ = some (.int .i64 aQ) ∧ w'.cell? ⟨aV, 5, none⟩ = some (.int .i64 bD) ∧ w'.cell? ⟨aV, 6, none⟩ = some (q1_6) ∧ w'.cell? ⟨aV, 7, none⟩ = some (q1_7) ∧ w'.cell? ⟨bA, 0, none⟩ = some (.int .i64 aR) ∧ w'.cell? ⟨bA, 1, none⟩ = some (.int .i64 aT) ∧ w'.cell? ⟨bA, 2, none⟩ = some (.slice bV aM.length bQ) ∧ w'.cell? ⟨bA, 3, none⟩ = some (.int .i64 aU) ∧ w'.cell? ⟨bA, 4, none⟩ = some (.int .i64 aW)) (ds := []) #[false, false, false, false, false, false, false, false, false, false] (by kernel_rfl) rfl rfl (ct8 aE.out ⟨(blk_cell aC.out 0).trans rfl, (blk_cell aC.out 1).trans rfl, (blk_cell aC.out 2).trans rfl, (blk_cell aC.out 3).trans rfl, (blk_cell aC.out 4).trans rfl⟩) (fun hHeld => ?_); refine with_tabW standbyref32_Learn.tab7 standbyref32_Learn.bits7 (fun HT_ HW_ => ?_)
        generalize w75.drew = w76 at aA cC aC aE aH aJ HB hHeld ⊢
        refine pure_ (i := 0) (N := some 52) (v := ?_) (a' := ?_) (bs 10 1) rfl rfl (any_of HT_.out (by kernel_rfl)) (fun _ _ _ h => h) (Or.inl ⟨by rfl, ?_⟩) ?_ ?_
        rotate_left
        ·intro w'
         go_simp
         with_reducible rfl
        rotate_left
        ·simp only [Act.put, sA, sB, sC, i64_w, i32_w]
         rfl
        refine pure_ (i := 2) (N := some 54) (v := ?_) (a' := ?_) (bs 10 5) rfl rfl (any_of HT_.out (by kernel_rfl)) (fun _ _ _ h => h) (Or.inl ⟨by rfl, ?_⟩) ?_ ?_
        rotate_left
        ·intro w'
         go_simp
         with_reducible rfl
        rotate_left
        ·simp only [Act.put, sA, sB, sC, i64_w, i32_w]
         rfl
        refine take_ (i := 1) (N := some 53) (v := ?_) (a' := ?_) (bs 10 7) rfl rfl (take_ofW HT_.out HW_.out (by kernel_rfl)) (fun _ _ _ h => h) (Or.inl ⟨by rfl, ?_⟩) hHeld ?_ ?_
        rotate_left
        ·rintro w' ⟨s0, s1, s2, s3, s4, s5, s6, s7, s8, s9, s10, s11, s12⟩
         go_simp
         with_reducible rfl
        rotate_left
        ·simp only [Act.put, sA, sB, sC, i64_w, i32_w]
         rfl
        refine pure_ (i := 4) (N := some 56) (v := ?_) (a' := ?_) (bs 10 23) rfl rfl (any_of HT_.out (by kernel_rfl)) (fun _ _ _ h => h) (Or.inl ⟨by rfl, ?_⟩) ?_ ?_
        rotate_left
        ·intro w'
         go_simp
         with_reducible rfl
        rotate_left
        ·simp only [Act.put, sA, sB, sC, i64_w, i32_w]
         rfl
        refine take_ (i := 3) (N := some 55) (v := ?_) (a' := ?_) (bs 10 31) rfl rfl (take_ofW HT_.out HW_.out (by kernel_rfl)) (fun _ _ _ h => h) (Or.inl ⟨by rfl, ?_⟩) hHeld ?_ ?_
        rotate_left
        ·rintro w' ⟨s0, s1, s2, s3, s4, s5, s6, s7, s8, s9, s10, s11, s12⟩
         go_simp
         with_reducible rfl
        rotate_left
        ·simp only [Act.put, sA, sB, sC, i64_w, i32_w]
         rfl
        refine one_ (i := 5) (N := none) (bs 10 63) rfl rfl (one_of HT_.out (by kernel_rfl)) (by decide) (fun K hK => ?_)
        have hs77 : w76.cell? ⟨aI, 0, none⟩ = some (.int .i64 bE) := (blk_cell aJ.out 0).trans rfl
        have hfs77 := blk_frozen aJ.out 0
        have hns77_0 := aG.out
        have hns77_1 := aD.out
        have hns77_2 := aN.out
        have hms77_0 := bS.out
        have hms77_1 := bT.out
        have hms77_2 := bH.out
        refine skip_ (w1 := ?_) (by rfl) rfl ?_ ?_
        rotate_left
        ·go_simp
         rfl
        refine hK.out _ _ ⟨(cf1 aD.out hHeld.1), (cf1 aD.out hHeld.2.1), (cf1 aD.out hHeld.2.2.1), (cf1 aD.out hHeld.2.2.2.1), (cf1 aD.out hHeld.2.2.2.2.1), (cf1 aD.out hHeld.2.2.2.2.2.1), (cf1 aD.out hHeld.2.2.2.2.2.2.1), (cf1 aD.out hHeld.2.2.2.2.2.2.2.1), (cf1 aG.out hHeld.2.2.2.2.2.2.2.2.1), (cf1 aG.out hHeld.2.2.2.2.2.2.2.2.2.1), (cf1 aG.out hHeld.2.2.2.2.2.2.2.2.2.2.1), (cf1 aG.out hHeld.2.2.2.2.2.2.2.2.2.2.2.1), (cf1 aG.out hHeld.2.2.2.2.2.2.2.2.2.2.2.2)⟩ (fun hHeld => ?_)
        clear hK K
        refine pure_ (i := 6) (N := some 57) (v := ?_) (a' := ?_) (bs 10 127) rfl rfl (any_of HT_.out (by kernel_rfl)) (fun _ _ _ h => h) (Or.inl ⟨by rfl, ?_⟩) ?_ ?_
        rotate_left
        ·intro w'
         go_simp
         with_reducible rfl
        rotate_left
        ·simp only [Act.put, sA, sB, sC, i64_w, i32_w]
         rfl
        refine one_ (i := 7) (N := none) (bs 10 255) rfl rfl (one_of HT_.out (by kernel_rfl)) (by decide) (fun K hK => ?_)
        have hs78 : w76.cell? ⟨aI, 2, none⟩ = some (.slice cL aY.length cM) := (blk_cell aJ.out 2).trans rfl
        have hfs78 := blk_frozen aJ.out 2
        have hns78_0 := aG.out
        have hns78_1 := aD.out
        have hns78_2 := aN.out
        have hms78_0 := bS.out
        have hms78_1 := bT.out
        have hms78_2 := bH.out
        refine skip_ (w1 := ?_) (by rfl) rfl ?_ ?_
        rotate_left
        ·go_simp
         rfl
        refine hK.out _ _ ⟨(cf1 aD.out hHeld.1), (cf1 aD.out hHeld.2.1), (cf1 aD.out hHeld.2.2.1), (cf1 aD.out hHeld.2.2.2.1), (cf1 aD.out hHeld.2.2.2.2.1), (cf1 aD.out hHeld.2.2.2.2.2.1), (cf1 aD.out hHeld.2.2.2.2.2.2.1), (cf1 aD.out hHeld.2.2.2.2.2.2.2.1), (cf1 aG.out hHeld.2.2.2.2.2.2.2.2.1), (cf1 aG.out hHeld.2.2.2.2.2.2.2.2.2.1), (cf1 aG.out hHeld.2.2.2.2.2.2.2.2.2.2.1), (cf1 aG.out hHeld.2.2.2.2.2.2.2.2.2.2.2.1), (cf1 aG.out hHeld.2.2.2.2.2.2.2.2.2.2.2.2)⟩ (fun hHeld => ?_)
        clear hK K
        refine pure_ (i := 8) (N := some 58) (v := ?_) (a' := ?_) (bs 10 511) rfl rfl (any_of HT_.out (by kernel_rfl)) (fun _ _ _ h => h) (Or.inl ⟨by rfl, ?_⟩) ?_ ?_
        rotate_left
        ·intro w'
         go_simp
         with_reducible rfl
        rotate_left
        ·simp only [Act.put, sA, sB, sC, i64_w, i32_w]
         rfl
        refine one_ (i := 9) (N := none) (bs 10 1023) rfl rfl (one_of HT_.out (by kernel_rfl)) (by decide) (fun K hK => ?_)
        have hs79 : w76.cell? ⟨aI, 3, none⟩ = some (.int .i64 b3) := (blk_cell aJ.out 3).trans rfl
        have hfs79 := blk_frozen aJ.out 3
        have hns79_0 := aG.out
        have hns79_1 := aD.out
        have hns79_2 := aN.out
        have hms79_0 := bS.out
        have hms79_1 := bT.out
        have hms79_2 := bH.out
        refine skip_ (w1 := ?_) (by rfl) rfl ?_ ?_
        rotate_left
        ·go_simp
         rfl
        refine hK.out _ _ ⟨(cf1 aD.out hHeld.1), (cf1 aD.out hHeld.2.1), (cf1 aD.out hHeld.2.2.1), (cf1 aD.out hHeld.2.2.2.1), (cf1 aD.out hHeld.2.2.2.2.1), (cf1 aD.out hHeld.2.2.2.2.2.1), (cf1 aD.out hHeld.2.2.2.2.2.2.1), (cf1 aD.out hHeld.2.2.2.2.2.2.2.1), (cf1 aG.out hHeld.2.2.2.2.2.2.2.2.1), (cf1 aG.out hHeld.2.2.2.2.2.2.2.2.2.1), (cf1 aG.out hHeld.2.2.2.2.2.2.2.2.2.2.1), (cf1 aG.out hHeld.2.2.2.2.2.2.2.2.2.2.2.1), (cf1 aG.out hHeld.2.2.2.2.2.2.2.2.2.2.2.2)⟩ (fun hHeld => ?_)
        clear hK K
        refine done_ (done_of HT_.out (by kernel_rfl)) ?_
        obtain ⟨p9, qA, qB, qC, qD⟩ := cz5 aJ.out
        obtain ⟨iR, iS, iT, iU, iV⟩ := fz5 aJ.out
        obtain ⟨qE, qF, qG, qH, qI⟩ := cz5 aH.out
        obtain ⟨iW, iX, iY, iZ, i0⟩ := fz5 aH.out
        try go_wp2
        refine bodyPost_ret (results_ct rfl _ _ bB 24 #[.int .i64 bD, .int .i64 bF, .slice none 0 0, .int .i64 aW, .int .i64 bJ] (0, 0) _ rfl (by exact (mK (pt5_0_5 (fr (fr (fr aH.out aN.out) aN.out) aN.out)))) Try.underlying24 rfl (by kernel_rfl)) rfl ?_
        exact ⟨_, _, by first | rfl | (simp [errW_none, errW_some] <;> rfl) | (simp [*, errW_none, errW_some] <;> rfl), Kd.V_nil _ _ _ _ _, by first | exact Kd.R_nil _ _ _ _ _ | exact Kd.N_nil _ _ _ _ _ | exact Kd.V_nil _ _ _ _ _ | exact Kd.Q_nil _ _ _ _ _ | exact Kd.S_nil _ _ _ _ _, (kB HB.out)⟩
       ·rw [if_neg c61] at H
        have o4 : decide (aR < bD) = false := decide_eq_false c61
        clear c61
        have HC82 := Aside0.mk H
        clear H
        have hnb83 := bK.out
        have hnc83 := bL.out
        have hnb84 := bC.out
        have hnc84 := bM.out
        obtain ⟨qJ, qK, qL, qM, qN⟩ := cz5 aC.out
        obtain ⟨i1, i2, i3, i4, i5⟩ := fz5 aC.out
        go_upto_region 9 with (first | ((with_reducible refine gate_callee (f := 48) rfl ?_); refine goesL_ (some 46) rfl rfl Try.func48 (by kernel_rfl) rfl #[.agg #[.int .i64 aR, .int .i64 aT, .slice bV aM.length bQ, .int .i64 aU, .int .i64 aW]] rfl (by (try simp only [List.map_toArray, List.map_cons, List.map_nil]); first | done | rfl | (simp only [List.length_drop, List.length_take]; rfl)) ?_; (with_reducible refine (standbyref32_Copy.calls aR aT _ _ aM aU aW bE bF aY b3 bJ _ ?side1 ?side2 A60.out).mono ?_); (case side1 => repeat (first | exact (Kd.V_reads' aA.out).2.2 | (with_reducible refine Kd.C_alloc ?_ _) | (with_reducible refine Kd.C_drewN ?_ _) | (with_reducible refine Kd.C_drew ?_))); (case side2 => exact (Kd.V_reads' aA.out).2.1); rintro e w86 ⟨rJ, rfl, ho0, hb⟩; refine ⟨_, rfl, ?_⟩; replace aA := Aside0.mk (Kd.V_elder' (mV aA.out) (Kd.R_base ho0) hb); have cC := Aside0.mk (Kd.R_lower (Kd.R_newM (M := fun k_ => (w.heap.size ≤ k_)) ho0 (kZ HB.out) (fun k_ h_ => h_)) (kZ HB.out)); replace aC := tK aC hb; replace aE := tK aE hb; replace aH := tK aH hb; replace HB := tB HB hb; (try clear hb); (try clear hb2); (try clear hk); (try clear hi); (try clear ho0)) | ((with_reducible refine gate_dst (N := 6) rfl ?_); refine box_event ?hg (N := 6) ?hd (cs := #[.int .i64 0, .int .i64 0, .slice none 0 0, .int .i64 0, .int .i64 0]) (t := 24) ?hr ?_; (case hd => rfl); (case hg => rfl); (case hr => first | (go_simp; done) | (go_simp; rfl)); intro aI hg w87 hbox hb; replace aA := Aside0.mk (Kd.V_below (Kd.V_elderB (mV aA.out) aI (Nat.le_of_eq hg.symm)) hb); replace cC := tR cC hb; have aJ := Aside0.mk (hbox); have rE := gZ HB hg; have rF := gZ HB hg; replace HB := tB HB hb; have aG := nL aC hg; have bS := nG aC hg; replace aC := tK aC hb; have aD := nL aE hg; have bT := nG aE hg; replace aE := tK aE hb; have aN := nL aH hg; have bH := nG aH hg; replace aH := tK aH hb; clear hb hbox hg; have hnb88 := bS.out; have hnc88 := aG.out; have hnb89 := bT.out; have hnc89 := aD.out; have hnb90 := bH.out; have hnc90 := aN.out; obtain ⟨qO, qP, qQ, qR, qS⟩ := cz5 aJ.out; obtain ⟨i6, i7, i8, i9, jA⟩ := fz5 aJ.out; obtain ⟨bX, bY, rL⟩ := Kd.R_slice cC.out; subst rL; have hnb93 := aZ.out; have hnc93 := bG.out; obtain ⟨qT, qU, qV, qW, qX, qY, qZ, q0⟩ := cz8 aE.out; obtain ⟨jB, jC, jD, jE, jF, jG, jH, jI⟩ := fz8 aE.out; obtain ⟨q2, q3, q4, q5, q6⟩ := cz5 aC.out; obtain ⟨jJ, jK, jL, jM, jN⟩ := fz5 aC.out))
        (try simp only [Act.put, sA, sB, sC])
        go_cut [76] (fun v76 wc => ∃ (kq : Nat) (eO : Bool), v76 = .bool eO ∧ Aside0 (standbyref32_Learn.j2 kq eO aR aT aM aU aW aX bI bO bP aQ bD bE bF aY b3 bJ = some (r1, r2, r3, r4, r5, r6)) ∧ Aside0 (kq ≤ kj41) ∧ Aside0 (Kd.V (Kd.int .i64) 3 wc w.heap.size (fun k_ => (cI k_ ∨ w.heap.size ≤ k_) ∧ some k_ ≠ ((.slice bX aY.length bY) : Value).ownBlock ∧ k_ ≠ bA ∧ k_ ≠ aV ∧ k_ ≠ bB ∧ k_ ≠ aI) (.slice bV aM.length bQ) aM) ∧ Aside0 (Kd.R (Kd.int .i64) 3 wc w.heap.size (fun k_ => (w.heap.size ≤ k_)) (.slice bX aY.length bY) aY) ∧ Aside0 (wc.heap[bA]? = some (.cells #[.int .i64 aR, .int .i64 aT, (.slice bV aM.length bQ), .int .i64 aU, .int .i64 aW] 24 (0, 0))) ∧ Aside0 (wc.heap[aV]? = some (.cells #[.int .i64 aX, .int .i64 bI, .int .i64 bO, .int .i64 bP, .int .i64 aQ, .int .i64 bD, q1_6, q1_7] 53 (0, 0))) ∧ Aside0 (wc.heap[bB]? = some (.cells #[.int .i64 0, .int .i64 0, (.slice none 0 0), .int .i64 0, .int .i64 0] 24 (0, 0))) ∧ Aside0 (wc.heap[aI]? = some (.cells #[.int .i64 bE, .int .i64 bF, (.slice bX aY.length bY), .int .i64 b3, .int .i64 bJ] 24 (0, 0))) ∧ Aside0 (Below w.heap.size w wc))
        case first =>
         have H := HC82.out
         clear HC82
         by_cases c96 : aX = 9
         ·rw [if_pos c96] at H
          have eL : (aX == 9) = true := beq_iff_eq.mpr c96
          have o5 : (aX != 9) = false := bne_eq_false_iff_eq.mpr c96
          clear c96
          (first | rw [eL] | (simp only [i64_w, i32_w]; rw [eL]) | skip)
          replace H := Option.bind_eq_some_iff.mp H
          obtain ⟨jP, A970, H⟩ := H
          (try dsimp only at H)
          have A97 := Aside0.mk A970
          clear A970
          by_cases c98 : jP = true
          ·subst c98
           have H1 : (standbyref32_Learn.j2 kj41 (decide (aQ ≥ aU)) aR aT aM aU aW aX bI bO bP aQ bD bE bF aY b3 bJ) = some (r1, r2, r3, r4, r5, r6) := by rw [if_pos rfl] at H; exact H
           clear H
           have H := H1
           clear H1
           have H' := Aside0.mk H
           clear H
           have hnb99 := bL.out
           have hnc99 := bK.out
           have hnb100 := aZ.out
           have hnc100 := bG.out
           have hnb101 := aD.out
           have hnc101 := bT.out
           obtain ⟨m3, m4, m5, m6, m7, m8, m9, nA⟩ := cz8 aE.out
           obtain ⟨nB, nC, nD, nE, nF, nH, nI, nJ⟩ := fz8 aE.out
           have hnb103 := bC.out
           have hnc103 := bM.out
           have hnb104 := aG.out
           have hnc104 := bS.out
           obtain ⟨nK, nM, nN, nO, nP⟩ := cz5 aC.out
           obtain ⟨nQ, nR, nS, nT, nU⟩ := fz5 aC.out
           go_wp2_with (first | (go_at_call 43; (with_reducible refine (standbyref32_has.calls kj41 _ _ aM aQ true _ ?side1 ?side2 A97.out).mono ?_); (case side1 => refine (Kd.V_reads' (e := 3) (base := w.heap.size) (ok := fun k_ => ((((cI k_ ∨ w.heap.size ≤ k_) ∧ (k_ ≠ bA ∧ (k_ ≠ aV ∧ k_ ≠ bB))) ∧ some k_ ≠ (.slice bX aY.length bY : Value).ownBlock) ∧ k_ ≠ aI)) (n := aM.length) (c := bQ) ?_).2.2; exact (mV (Kd.V_mono (vf5 aI 0 (Kd.V_mono aA.out (fun k_ hk => (⟨hk, hk.2⟩ : _ ∧ k_ ≠ aI))) (fun _ hk => hk.2) (.int .i64 bE) (.int .i64 bF) (.slice bX aY.length bY) (.int .i64 b3) (.int .i64 bJ)) (fun _ h_ => h_.1)))); (case side2 => exact (Kd.V_reads' aA.out).2.1); rintro e w' ⟨rfl, ⟨nd, rfl⟩⟩))
           go_meet
           case rel => exact ⟨_, (decide (aQ ≥ aU)), (by first | rfl | (simp; done) | (simp [*]; done)), H', ⟨by have := HJ2.out; have := HJ41.out; first | omega | exact Nat.le_refl _⟩, ⟨by refine mV ?_; exact Kd.V_mono (vf5 aI 0 (Kd.V_mono aA.out (fun k_ hk => (⟨hk, hk.2⟩ : _ ∧ k_ ≠ aI))) (fun _ hk => hk.2) (.int .i64 bE) (.int .i64 bF) (.slice bX aY.length bY) (.int .i64 b3) (.int .i64 bJ)) (fun _ hk => ⟨hk.1.1.1.1, ⟨hk.1.1.2, ⟨hk.1.1.1.2.1, ⟨hk.1.1.1.2.2.1, ⟨hk.1.1.1.2.2.2, hk.1.2⟩⟩⟩⟩⟩)⟩, ⟨by refine mR ?_; exact Kd.R_mono (rf5 aI 0 (Kd.R_types cC.out aJ.out (by decide)) (fun _ hk => hk.2) (.int .i64 bE) (.int .i64 bF) (.slice bX aY.length bY) (.int .i64 b3) (.int .i64 bJ)) (fun _ hk => hk.1.1)⟩, ⟨by exact (mK (fr (fr (fr (fr (fr aC.out aG.out) aG.out) aG.out) aG.out) aG.out))⟩, ⟨by exact (mK (fr (fr (fr (fr (fr aE.out aD.out) aD.out) aD.out) aD.out) aD.out))⟩, ⟨by exact (mK (fr (fr (fr (fr (fr aH.out aN.out) aN.out) aN.out) aN.out) aN.out))⟩, ⟨by exact (mK (pt5_0_5 aJ.out))⟩, ⟨kB HB.out⟩⟩
          ·replace c98 := Bool.eq_false_iff.mpr c98
           subst c98
           have H1 : (standbyref32_Learn.j2 kj41 false aR aT aM aU aW aX bI bO bP aQ bD bE bF aY b3 bJ) = some (r1, r2, r3, r4, r5, r6) := by rw [if_neg (show ¬ (false = true) by decide)] at H; exact H
           clear H
           have H := H1
           clear H1
           have H' := Aside0.mk H
           clear H
           have hnb106 := bL.out
           have hnc106 := bK.out
           have hnb107 := aZ.out
           have hnc107 := bG.out
           have hnb108 := aD.out
           have hnc108 := bT.out
           obtain ⟨nV, nW, nX, nY, nZ, n0, n1, n2⟩ := cz8 aE.out
           obtain ⟨n3, n4, n5, n6, n7, n8, n9, oA⟩ := fz8 aE.out
           have hnb110 := bC.out
           have hnc110 := bM.out
           have hnb111 := aG.out
           have hnc111 := bS.out
           obtain ⟨oB, oC, oD, oE, oF⟩ := cz5 aC.out
           obtain ⟨oG, oH, oI, oJ, oK⟩ := fz5 aC.out
           go_wp2_with (first | (go_at_call 43; (with_reducible refine (standbyref32_has.calls kj41 _ _ aM aQ false _ ?side1 ?side2 A97.out).mono ?_); (case side1 => refine (Kd.V_reads' (e := 3) (base := w.heap.size) (ok := fun k_ => ((((cI k_ ∨ w.heap.size ≤ k_) ∧ (k_ ≠ bA ∧ (k_ ≠ aV ∧ k_ ≠ bB))) ∧ some k_ ≠ (.slice bX aY.length bY : Value).ownBlock) ∧ k_ ≠ aI)) (n := aM.length) (c := bQ) ?_).2.2; exact (mV (Kd.V_mono (vf5 aI 0 (Kd.V_mono aA.out (fun k_ hk => (⟨hk, hk.2⟩ : _ ∧ k_ ≠ aI))) (fun _ hk => hk.2) (.int .i64 bE) (.int .i64 bF) (.slice bX aY.length bY) (.int .i64 b3) (.int .i64 bJ)) (fun _ h_ => h_.1)))); (case side2 => exact (Kd.V_reads' aA.out).2.1); rintro e w' ⟨rfl, ⟨nd, rfl⟩⟩))
           go_meet
           case rel => exact ⟨_, (false), (by first | rfl | (simp; done) | (simp [*]; done)), H', ⟨by have := HJ2.out; have := HJ41.out; first | omega | exact Nat.le_refl _⟩, ⟨by refine mV ?_; exact Kd.V_mono (vf5 aI 0 (Kd.V_mono aA.out (fun k_ hk => (⟨hk, hk.2⟩ : _ ∧ k_ ≠ aI))) (fun _ hk => hk.2) (.int .i64 bE) (.int .i64 bF) (.slice bX aY.length bY) (.int .i64 b3) (.int .i64 bJ)) (fun _ hk => ⟨hk.1.1.1.1, ⟨hk.1.1.2, ⟨hk.1.1.1.2.1, ⟨hk.1.1.1.2.2.1, ⟨hk.1.1.1.2.2.2, hk.1.2⟩⟩⟩⟩⟩)⟩, ⟨by refine mR ?_; exact Kd.R_mono (rf5 aI 0 (Kd.R_types cC.out aJ.out (by decide)) (fun _ hk => hk.2) (.int .i64 bE) (.int .i64 bF) (.slice bX aY.length bY) (.int .i64 b3) (.int .i64 bJ)) (fun _ hk => hk.1.1)⟩, ⟨by exact (mK (fr (fr (fr (fr (fr aC.out aG.out) aG.out) aG.out) aG.out) aG.out))⟩, ⟨by exact (mK (fr (fr (fr (fr (fr aE.out aD.out) aD.out) aD.out) aD.out) aD.out))⟩, ⟨by exact (mK (fr (fr (fr (fr (fr aH.out aN.out) aN.out) aN.out) aN.out) aN.out))⟩, ⟨by exact (mK (pt5_0_5 aJ.out))⟩, ⟨kB HB.out⟩⟩
         ·rw [if_neg c96] at H
          have eL : (aX == 9) = false := beq_eq_false_iff_ne.mpr c96
          have o5 : (aX != 9) = true := bne_iff_ne.mpr c96
          (first | rw [eL] | (simp only [i64_w, i32_w]; rw [eL]) | skip)
          have H' := Aside0.mk H
          clear H
          have hnb113 := bL.out
          have hnc113 := bK.out
          have hnb114 := aZ.out
          have hnc114 := bG.out
          have hnb115 := aD.out
          have hnc115 := bT.out
          obtain ⟨oL, oM, oN, oO, oP, oQ, oR, oS⟩ := cz8 aE.out
          obtain ⟨oT, oU, oV, oW, oX, oY, oZ, o0⟩ := fz8 aE.out
          go_wp2
          go_meet
          case rel => exact ⟨_, (false), (by first | rfl | (simp; done) | (simp [*]; done)), H', ⟨by have := HJ2.out; have := HJ41.out; first | omega | exact Nat.le_refl _⟩, ⟨by refine mV ?_; exact Kd.V_mono (vf5 aI 0 (Kd.V_mono aA.out (fun k_ hk => (⟨hk, hk.2⟩ : _ ∧ k_ ≠ aI))) (fun _ hk => hk.2) (.int .i64 bE) (.int .i64 bF) (.slice bX aY.length bY) (.int .i64 b3) (.int .i64 bJ)) (fun _ hk => ⟨hk.1.1.1.1, ⟨hk.1.1.2, ⟨hk.1.1.1.2.1, ⟨hk.1.1.1.2.2.1, ⟨hk.1.1.1.2.2.2, hk.1.2⟩⟩⟩⟩⟩)⟩, ⟨by refine mR ?_; exact Kd.R_mono (rf5 aI 0 (Kd.R_types cC.out aJ.out (by decide)) (fun _ hk => hk.2) (.int .i64 bE) (.int .i64 bF) (.slice bX aY.length bY) (.int .i64 b3) (.int .i64 bJ)) (fun _ hk => hk.1.1)⟩, ⟨by exact (mK (fr (fr (fr (fr (fr aC.out aG.out) aG.out) aG.out) aG.out) aG.out))⟩, ⟨by exact (mK (fr (fr (fr (fr (fr aE.out aD.out) aD.out) aD.out) aD.out) aD.out))⟩, ⟨by exact (mK (fr (fr (fr (fr (fr aH.out aN.out) aN.out) aN.out) aN.out) aN.out))⟩, ⟨by exact (mK (pt5_0_5 aJ.out))⟩, ⟨kB HB.out⟩⟩
        case rest =>
         clear HC82
         try clear c1
         try clear q1
         try clear p2
         try clear c4
         try clear c5
         try clear c6
         try clear c7
         try clear c8
         try clear c9
         try clear c10
         try clear c11
         try clear c48
         try clear c52
         try clear c54
         try clear c55
         try clear c56
         try clear c58
         try clear c61
         try clear o4
         try clear c62
         try clear c63
         try clear c67
         try clear c68
         try clear c69
         try clear c72
         try clear c83
         try clear c84
         try clear c88
         try clear c89
         try clear c90
         try clear c93
         try clear c96
         try clear eL
         try clear o5
         try clear c98
         try clear c99
         try clear c100
         try clear c101
         try clear c103
         try clear c104
         try clear c106
         try clear c107
         try clear c108
         try clear c110
         try clear c111
         try clear c113
         try clear c114
         try clear c115
         try clear m3 m4 m5 m6 m7 m8 m9 nA
         try clear nK nM nN nO nP
         try clear nV nW nX nY nZ n0 n1 n2
         try clear oB oC oD oE oF
         try clear oL oM oN oO oP oQ oR oS
         try clear eU eV eW eX eY
         try clear e7 e8 e9 fA fB fC fD fE
         try clear fN fO fP fQ fR
         try clear fX fY fZ f0 f1
         try clear f7 f8 f9 gA gB gC gD gE
         try clear gN gO gP gQ gR
         try clear gX gY g0 g1 g2
         try clear g8 g9 hA hB hC hD hE hF
         try clear hJ hL hM hN hO
         try clear hP hQ hR hS hT
         try clear lX lY lZ l1 l2
         try clear l3 l4 l5 l6 l7
         try clear l8 l9 mA mB mC mD mE mF
         try clear mG mH mI mJ mL mM mN mO
         try clear mP mQ mS mT mU mW mX mY
         try clear pB pC pD pE pF
         try clear pG pH pI pJ pK
         try clear pL pM pN pO pP
         try clear pQ pR pS pT pU
         try clear pV pW pX pY pZ p0 p1 p3
         try clear p4 p5 p6 p7 p8
         try clear p9 qA qB qC qD
         try clear qE qF qG qH qI
         try clear qJ qK qL qM qN
         try clear qO qP qQ qR qS
         try clear qT qU qV qW qX qY qZ q0
         try clear q2 q3 q4 q5 q6
         try clear nB nC nD nE nF nH nI nJ
         try clear nQ nR nS nT nU
         try clear n3 n4 n5 n6 n7 n8 n9 oA
         try clear oG oH oI oJ oK
         try clear oT oU oV oW oX oY oZ o0
         try clear eZ e0 e1 e3 e5
         try clear fF fG fH fI fJ fK fL fM
         try clear fS fT fU fV fW
         try clear f2 f3 f4 f5 f6
         try clear gF gG gH gI gJ gK gL gM
         try clear gS gT gU gV gW
         try clear g3 g4 g5 g6 g7
         try clear hG hH hI cX cY cZ c0 dA
         try clear dB dC dD dE dF
         try clear dG dH dI dJ dK
         try clear dM dN dO dP dQ
         try clear dR dS dT dU dV
         try clear dX dY dZ d0 d1 d2 d3 d4
         try clear d5 d6 d7 d8 d9 eA eB eC
         try clear eD eE eF eG eH eI eJ eK
         try clear hU hV hW hX hY
         try clear hZ h0 h1 h2 h3
         try clear h4 h5 h6 h7 h8
         try clear h9 iA iB iC iD
         try clear iE iF iG iH iI iJ iK iL
         try clear iM iN iO iP iQ
         try clear iR iS iT iU iV
         try clear iW iX iY iZ i0
         try clear i1 i2 i3 i4 i5
         try clear i6 i7 i8 i9 jA
         try clear jB jC jD jE jF jG jH jI
         try clear jJ jK jL jM jN
         try clear p2
         try clear q1
         obtain ⟨kq, eO, rfl, HA, HJ81, aA, aK, aC, aE, aH, aJ, HB⟩ := hcut
         cases kq with
         | zero => exact absurd HA.out (by simp [standbyref32_Learn.j2])
         | succ kj81 =>
          have H := HA.out
          clear HA
          simp only [standbyref32_Learn.j2] at H
          by_cases c117 : eO = true
          ·subst c117
           have H1 : ((standbyref32_toTarget.f aR aT aM aU aW 10 aQ).bind fun cB => (some (bE, bF, aY, aQ, bJ, (([(⟨cB.1, cB.2.1, cB.2.2.1, cB.2.2.2.1, cB.2.2.2.2.1, cB.2.2.2.2.2.1, cB.2.2.2.2.2.2.1, cB.2.2.2.2.2.2.2⟩ : S53)] : List (S53)))))) = some (r1, r2, r3, r4, r5, r6) := by rw [if_pos rfl] at H; exact H
           clear H
           have H := H1
           clear H1
           replace H := Option.bind_eq_some_iff.mp H
           obtain ⟨⟨cR, cS, cT, cU, cV, cW, jQ, jR⟩, A1180, H⟩ := H
           (try dsimp only at H)
           have A118 := Aside0.mk A1180
           clear A1180
           obtain ⟨q9, eP⟩ : ∃ y_ : List (S53), y_ = (([(⟨cR, cS, cT, cU, cV, cW, jQ, jR⟩ : S53)] : List (S53))) := ⟨_, rfl⟩
           replace H : (some (bE, bF, aY, aQ, bJ, q9)) = some (r1, r2, r3, r4, r5, r6) := by first | (rw [eP]; with_reducible exact H) | (have H2_ := (Option.bind_some _ _).symm.trans H; rw [eP]; with_reducible exact H2_) | (have H2_ := (Option.bind_some _ _).symm.trans H; with_reducible exact H2_) | with_reducible exact H | (rw [eP]; exact H) | exact H
           have o6 := Aside0.mk eP
           clear eP
           simp only [Option.some.injEq, Prod.mk.injEq] at H
           obtain ⟨rfl, rfl, rfl, rfl, rfl, rfl⟩ := H
           have hnb119 := bL.out
           have hnc119 := bK.out
           have hnb120 := aZ.out
           have hnc120 := bG.out
           have hnb121 := aD.out
           have hnc121 := bT.out
           obtain ⟨jS, jT, jU, jV, jW, jX, jY, jZ⟩ := cz8 aE.out
           obtain ⟨j4, j5, j6, j7, j8, j9, kA, kC⟩ := fz8 aE.out
           have hnb123 := bS.out
           have hnc123 := aG.out
           have hnb124 := bH.out
           have hnc124 := aN.out
           obtain ⟨kD, kE, kF, kG, kH⟩ := cz5 aJ.out
           obtain ⟨kI, kJ, kK, kL, kM⟩ := fz5 aJ.out
           try go_wp2
           have n0_ : Aside0 (Kd.V (Kd.int .i64) 3 (wc.setCell ⟨aI, 3, none⟩ (.int .i64 aQ)) w.heap.size (fun k_ => (cI k_ ∨ w.heap.size ≤ k_) ∧ some k_ ≠ (.slice bX aY.length bY : Value).ownBlock ∧ k_ ≠ bA ∧ k_ ≠ aV ∧ k_ ≠ bB ∧ k_ ≠ aI) (.slice bV aM.length bQ) aM) := ⟨by refine mV ?_; exact Kd.V_mono (Kd.V_far (p := ⟨aI, 3, none⟩) (Kd.V_mono aA.out (fun k_ hk => (⟨hk, hk.2.2.2.2.2⟩ : _ ∧ k_ ≠ aI))) (fun _ hk => hk.2) (.int .i64 aQ)) (fun _ hk => ⟨hk.1.1, ⟨hk.1.2.1, ⟨hk.1.2.2.1, ⟨hk.1.2.2.2.1, ⟨hk.1.2.2.2.2.1, hk.1.2.2.2.2.2⟩⟩⟩⟩⟩)⟩
           have n1_ : Aside0 (Kd.R (Kd.int .i64) 3 (wc.setCell ⟨aI, 3, none⟩ (.int .i64 aQ)) w.heap.size (fun k_ => (w.heap.size ≤ k_)) (.slice bX aY.length bY) aY) := ⟨by refine mR ?_; exact Kd.R_mono (Kd.R_far (p := ⟨aI, 3, none⟩) (Kd.R_types aK.out aJ.out (by decide)) (fun _ hk => hk.2) (.int .i64 aQ)) (fun _ hk => hk.1)⟩
           have n2_ : Aside0 ((wc.setCell ⟨aI, 3, none⟩ (.int .i64 aQ)).heap[bA]? = some (.cells #[.int .i64 aR, .int .i64 aT, .slice bV aM.length bQ, .int .i64 aU, .int .i64 aW] 24 (0, 0))) := ⟨by exact (mK (fr aC.out aG.out))⟩
           have n3_ : Aside0 ((wc.setCell ⟨aI, 3, none⟩ (.int .i64 aQ)).heap[aV]? = some (.cells #[.int .i64 aX, .int .i64 bI, .int .i64 bO, .int .i64 bP, .int .i64 aQ, .int .i64 bD, q1_6, q1_7] 53 (0, 0))) := ⟨by exact (mK (fr aE.out aD.out))⟩
           have n4_ : Aside0 ((wc.setCell ⟨aI, 3, none⟩ (.int .i64 aQ)).heap[bB]? = some (.cells #[.int .i64 0, .int .i64 0, .slice none 0 0, .int .i64 0, .int .i64 0] 24 (0, 0))) := ⟨by exact (mK (fr aH.out aN.out))⟩
           have n5_ : Aside0 ((wc.setCell ⟨aI, 3, none⟩ (.int .i64 aQ)).heap[aI]? = some (.cells #[.int .i64 bE, .int .i64 bF, .slice bX aY.length bY, .int .i64 aQ, .int .i64 bJ] 24 (0, 0))) := ⟨by exact (mK (pt5_3_1 aJ.out))⟩
           have n6_ : Aside0 (Below w.heap.size w (wc.setCell ⟨aI, 3, none⟩ (.int .i64 aQ))) := ⟨kB HB.out⟩
           (try clear aA)
           (try clear aK)
           (try clear aC)
           (try clear aE)
           (try clear aH)
           (try clear aJ)
           (try clear HB)
           generalize (wc.setCell ⟨aI, 3, none⟩ (.int .i64 aQ)) = w126 at n0_ n1_ n2_ n3_ n4_ n5_ n6_ ⊢
           have aA := n0_
           have aK := n1_
           have aC := n2_
           have aE := n3_
           have aH := n4_
           have aJ := n5_
           have HB := n6_
           clear n0_ n1_ n2_ n3_ n4_ n5_ n6_
           have n0_ := Aside0.mk (Kd.V_drew aA.out)
           have n1_ := Aside0.mk (Kd.R_drew aK.out)
           have n2_ := Aside0.mk (blk_drew aC.out)
           have n3_ := Aside0.mk (blk_drew aE.out)
           have n4_ := Aside0.mk (blk_drew aH.out)
           have n5_ := Aside0.mk (blk_drew aJ.out)
           have n6_ := Aside0.mk (below_drew1 HB.out)
           clear aA
           clear aK
           clear aC
           clear aE
           clear aH
           clear aJ
           clear HB
           have aA := n0_
           have aK := n1_
           have aC := n2_
           have aE := n3_
           have aH := n4_
           have aJ := n5_
           have HB := n6_
           clear n0_ n1_ n2_ n3_ n4_ n5_ n6_
           refine start_ (n := 8) (S := fun w' => True) (ds := []) #[false, false, false, false, false, false, false, false] (by kernel_rfl) rfl rfl trivial (fun hHeld => ?_); refine with_tabW standbyref32_Learn.tab11 standbyref32_Learn.bits11 (fun HT_ HW_ => ?_)
           generalize w126.drew = w127 at aA aK aC aE aH aJ HB hHeld ⊢
           refine pure_ (i := 2) (N := some 82) (v := ?_) (a' := ?_) (bs 8 4) rfl rfl (any_of HT_.out (by kernel_rfl)) (fun _ _ _ h => h) (Or.inl ⟨by rfl, ?_⟩) ?_ ?_
           rotate_left
           ·intro w'
            go_simp
            with_reducible rfl
           rotate_left
           ·simp only [Act.put, sA, sB, sC, i64_w, i32_w]
            rfl
           refine inv_at [0, 1, 3, 4, 5, 6, 7] (fun a0_ b a w' => ∃ (cA : Value) (m7_ : Value), a = putSel a0_ b [(0, 80, .agg #[.int .i64 bE, .int .i64 bF, .slice bX aY.length bY, .int .i64 aQ, .int .i64 bJ]), (1, 81, .agg #[.int .i64 aR, .int .i64 aT, .slice bV aM.length bQ, .int .i64 aU, .int .i64 aW]), (3, 83, .int .i64 aQ), (4, 84, .agg #[.int .i64 cR, .int .i64 cS, .int .i64 cT, .int .i64 cU, .int .i64 cV, .int .i64 cW, .slice none 0 0, .slice none 0 0]), (5, 85, cA), (7, 5, m7_)] ∧ (Kd.V (Kd.int .i64) 3 w' w.heap.size (fun k_ => (cI k_ ∨ w.heap.size ≤ k_) ∧ some k_ ≠ (.slice bX aY.length bY : Value).ownBlock ∧ k_ ≠ bA ∧ k_ ≠ aV ∧ k_ ≠ bB ∧ k_ ≠ aI) (.slice bV aM.length bQ) aM) ∧ (Kd.R (Kd.int .i64) 3 w' w.heap.size (fun k_ => (w.heap.size ≤ k_)) (.slice bX aY.length bY) aY) ∧ (w'.heap[bA]? = some (.cells #[.int .i64 aR, .int .i64 aT, .slice bV aM.length bQ, .int .i64 aU, .int .i64 aW] 24 (0, 0))) ∧ (w'.heap[aV]? = some (.cells #[.int .i64 aX, .int .i64 bI, .int .i64 bO, .int .i64 bP, .int .i64 aQ, .int .i64 bD, q1_6, q1_7] 53 (0, 0))) ∧ (b 6 = false → w'.heap[bB]? = some (.cells #[.int .i64 0, .int .i64 0, .slice none 0 0, .int .i64 0, .int .i64 0] 24 (0, 0))) ∧ (w'.heap[aI]? = some (.cells #[.int .i64 bE, .int .i64 bF, .slice bX aY.length bY, .int .i64 aQ, .int .i64 bJ] 24 (0, 0))) ∧ (Below w.heap.size w w') ∧ (b 5 = true → Kd.R k53 53 w' w.heap.size (fun k_ => (w.heap.size ≤ k_) ∧ k_ ≠ aV) cA q9) ∧ (b 6 = true → w'.heap[bB]? = some (.cells #[.int .i64 bE, .int .i64 bF, .slice bX aY.length bY, .int .i64 aQ, .int .i64 bJ] 24 (0, 0))) ∧ (b 7 = true → (m7_ : Value) = cA)) HT_.out HW_.out (by kernel_rfl) (by kernel_rfl) ?_ ?_ ?_
           ·exact ⟨.bool false, .bool false, by simp only [putSel, Bool.false_eq_true, if_false], aA.out, aK.out, aC.out, aE.out, fun _ => aH.out, aJ.out, HB.out, fun h_ => absurd h_ (by decide), fun h_ => absurd h_ (by decide), fun h_ => absurd h_ (by decide)⟩
           ·skip
            clear aC aE aH aJ HB aA aK
            refine steps_cons ?_ ?_
            ·rintro b a w' ⟨cA, m7_, ha, Q_HO_409002, Q_HO_420002, Q_BK408, Q_BK409, Q_BK410, Q_BK419, Q_HB, Q_HO431, Q_BK410_e6, Q_X7_⟩ hb_ hon hoff
             refine ⟨_, rfl, fun K hK => ?_⟩
             have e6 : a.tmps[6]? = some (.pointer (some ⟨aI, 0, none⟩)) := by rw [ha]; exact (putSel_off rfl).trans rfl
             replace ha := Aside0.mk ha
             have aA := Aside0.mk Q_HO_409002
             have aK := Aside0.mk Q_HO_420002
             have aC := Aside0.mk Q_BK408
             have aE := Aside0.mk Q_BK409
             have aH := Aside0.mk (Q_BK410 (hoff 6 (by kernel_rfl)))
             have aJ := Aside0.mk Q_BK419
             have HB := Aside0.mk Q_HB
             have hc0_ : w'.cell? ⟨aI, 0, none⟩ = some (.int .i64 bE) := (blk_cell aJ.out 0).trans rfl
             have hc1_ : w'.cell? ⟨aI, 1, none⟩ = some (.int .i64 bF) := (blk_cell aJ.out 1).trans rfl
             have hc2_ : w'.cell? ⟨aI, 2, none⟩ = some (.slice bX aY.length bY) := (blk_cell aJ.out 2).trans rfl
             have hc3_ : w'.cell? ⟨aI, 3, none⟩ = some (.int .i64 aQ) := (blk_cell aJ.out 3).trans rfl
             have hc4_ : w'.cell? ⟨aI, 4, none⟩ = some (.int .i64 bJ) := (blk_cell aJ.out 4).trans rfl
             refine value_ (w1 := w') (v := .agg #[.int .i64 bE, .int .i64 bF, .slice bX aY.length bY, .int .i64 aQ, .int .i64 bJ]) (by rfl) rfl ?_ ?_
             ·go_simp
              (try simp only [i64_w])
              try rfl
             refine hK.out _ _ ⟨cA, m7_, (by rw [ha.out]; exact putSel_upk 0 hb_ rfl rfl rfl), Q_HO_409002, Q_HO_420002, Q_BK408, Q_BK409, Q_BK410, Q_BK419, Q_HB, Q_HO431, fun h0_ => absurd ((hoff 6 (by kernel_rfl)).symm.trans h0_) (by decide), fun h0_ => absurd ((hoff 7 (by kernel_rfl)).symm.trans h0_) (by decide)⟩
            refine steps_cons ?_ ?_
            ·rintro b a w' ⟨cA, m7_, ha, Q_HO_409002, Q_HO_420002, Q_BK408, Q_BK409, Q_BK410, Q_BK419, Q_HB, Q_HO431, Q_BK410_e6, Q_X7_⟩ hb_ hon hoff
             refine ⟨_, rfl, fun K hK => ?_⟩
             have e2 : a.tmps[2]? = some (.pointer (some ⟨bA, 0, none⟩)) := by rw [ha]; exact (putSel_off rfl).trans rfl
             replace ha := Aside0.mk ha
             have aA := Aside0.mk Q_HO_409002
             have aK := Aside0.mk Q_HO_420002
             have aC := Aside0.mk Q_BK408
             have aE := Aside0.mk Q_BK409
             have aH := Aside0.mk (Q_BK410 (hoff 6 (by kernel_rfl)))
             have aJ := Aside0.mk Q_BK419
             have HB := Aside0.mk Q_HB
             have hc0_ : w'.cell? ⟨bA, 0, none⟩ = some (.int .i64 aR) := (blk_cell aC.out 0).trans rfl
             have hc1_ : w'.cell? ⟨bA, 1, none⟩ = some (.int .i64 aT) := (blk_cell aC.out 1).trans rfl
             have hc2_ : w'.cell? ⟨bA, 2, none⟩ = some (.slice bV aM.length bQ) := (blk_cell aC.out 2).trans rfl
             have hc3_ : w'.cell? ⟨bA, 3, none⟩ = some (.int .i64 aU) := (blk_cell aC.out 3).trans rfl
             have hc4_ : w'.cell? ⟨bA, 4, none⟩ = some (.int .i64 aW) := (blk_cell aC.out 4).trans rfl
             refine value_ (w1 := w') (v := .agg #[.int .i64 aR, .int .i64 aT, .slice bV aM.length bQ, .int .i64 aU, .int .i64 aW]) (by rfl) rfl ?_ ?_
             ·go_simp
              (try simp only [i64_w])
              try rfl
             refine hK.out _ _ ⟨cA, m7_, (by rw [ha.out]; exact putSel_upk 1 hb_ rfl rfl rfl), Q_HO_409002, Q_HO_420002, Q_BK408, Q_BK409, Q_BK410, Q_BK419, Q_HB, fun h0_ => absurd ((hoff 5 (by kernel_rfl)).symm.trans h0_) (by decide), fun h0_ => absurd ((hoff 6 (by kernel_rfl)).symm.trans h0_) (by decide), fun h0_ => absurd ((hoff 7 (by kernel_rfl)).symm.trans h0_) (by decide)⟩
            refine steps_cons ?_ ?_
            ·rintro b a w' ⟨cA, m7_, ha, Q_HO_409002, Q_HO_420002, Q_BK408, Q_BK409, Q_BK410, Q_BK419, Q_HB, Q_HO431, Q_BK410_e6, Q_X7_⟩ hb_ hon hoff
             refine ⟨_, rfl, fun K hK => ?_⟩
             have e82 : a.tmps[82]? = some (.pointer (some ⟨aV, 4, none⟩)) := by rw [ha]; exact (putSel_off rfl).trans rfl
             replace ha := Aside0.mk ha
             have aA := Aside0.mk Q_HO_409002
             have aK := Aside0.mk Q_HO_420002
             have aC := Aside0.mk Q_BK408
             have aE := Aside0.mk Q_BK409
             have aH := Aside0.mk (Q_BK410 (hoff 6 (by kernel_rfl)))
             have aJ := Aside0.mk Q_BK419
             have HB := Aside0.mk Q_HB
             have hc0_ : w'.cell? ⟨aV, 0, none⟩ = some (.int .i64 aX) := (blk_cell aE.out 0).trans rfl
             have hc1_ : w'.cell? ⟨aV, 1, none⟩ = some (.int .i64 bI) := (blk_cell aE.out 1).trans rfl
             have hc2_ : w'.cell? ⟨aV, 2, none⟩ = some (.int .i64 bO) := (blk_cell aE.out 2).trans rfl
             have hc3_ : w'.cell? ⟨aV, 3, none⟩ = some (.int .i64 bP) := (blk_cell aE.out 3).trans rfl
             have hc4_ : w'.cell? ⟨aV, 4, none⟩ = some (.int .i64 aQ) := (blk_cell aE.out 4).trans rfl
             have hc5_ : w'.cell? ⟨aV, 5, none⟩ = some (.int .i64 bD) := (blk_cell aE.out 5).trans rfl
             have hc6_ : w'.cell? ⟨aV, 6, none⟩ = some (q1_6) := (blk_cell aE.out 6).trans rfl
             have hc7_ : w'.cell? ⟨aV, 7, none⟩ = some (q1_7) := (blk_cell aE.out 7).trans rfl
             refine value_ (w1 := w') (v := .int .i64 aQ) (by rfl) rfl ?_ ?_
             ·go_simp
              (try simp only [i64_w])
              try rfl
             refine hK.out _ _ ⟨cA, m7_, (by rw [ha.out]; exact putSel_upk 2 hb_ rfl rfl rfl), Q_HO_409002, Q_HO_420002, Q_BK408, Q_BK409, Q_BK410, Q_BK419, Q_HB, fun h0_ => absurd ((hoff 5 (by kernel_rfl)).symm.trans h0_) (by decide), fun h0_ => absurd ((hoff 6 (by kernel_rfl)).symm.trans h0_) (by decide), fun h0_ => absurd ((hoff 7 (by kernel_rfl)).symm.trans h0_) (by decide)⟩
            refine steps_cons ?_ ?_
            ·rintro b a w' ⟨cA, m7_, ha, Q_HO_409002, Q_HO_420002, Q_BK408, Q_BK409, Q_BK410, Q_BK419, Q_HB, Q_HO431, Q_BK410_e6, Q_X7_⟩ hb_ hon hoff
             refine ⟨_, rfl, fun K hK => ?_⟩
             have e81 : a.tmps[81]? = some (.agg #[.int .i64 aR, .int .i64 aT, .slice bV aM.length bQ, .int .i64 aU, .int .i64 aW]) := by rw [ha]; exact putSel_on (e := (1, 81, .agg #[.int .i64 aR, .int .i64 aT, .slice bV aM.length bQ, .int .i64 aU, .int .i64 aW])) 1 rfl rfl (hon 1 (by kernel_rfl)) rfl
             have e83 : a.tmps[83]? = some (.int .i64 aQ) := by rw [ha]; exact putSel_on (e := (3, 83, .int .i64 aQ)) 2 rfl rfl (hon 3 (by kernel_rfl)) rfl
             replace ha := Aside0.mk ha
             have aA := Aside0.mk Q_HO_409002
             have aK := Aside0.mk Q_HO_420002
             have aC := Aside0.mk Q_BK408
             have aE := Aside0.mk Q_BK409
             have aH := Aside0.mk (Q_BK410 (hoff 6 (by kernel_rfl)))
             have aJ := Aside0.mk Q_BK419
             have HB := Aside0.mk Q_HB
             refine goes_ Try.func49 (by kernel_rfl) rfl #[.agg #[.int .i64 aR, .int .i64 aT, .slice bV aM.length bQ, .int .i64 aU, .int .i64 aW], .int .i64 10, .int .i64 aQ] (by rfl) rfl rfl (by first | (simp only [List.map_toArray, List.map_cons, List.map_nil, Act.eval, Array.getD_eq_getD_getElem?, Option.getD_some, e81, e83]; done) | (simp only [List.map_toArray, List.map_cons, List.map_nil, Act.eval, Array.getD_eq_getD_getElem?, Option.getD_some, e81, e83]; rfl)) ?_
             with_reducible refine (standbyref32_toTarget.calls aR aT _ _ aM aU aW 10 aQ cR cS cT cU cV cW jQ jR _ ?side1 ?side2 A118.out).mono ?_
             (case side1 => repeat (first | exact (Kd.V_reads' aA.out).2.2 | (with_reducible refine Kd.C_alloc ?_ _) | (with_reducible refine Kd.C_drewN ?_ _) | (with_reducible refine Kd.C_drew ?_)))
             (case side2 => exact (Kd.V_reads' aA.out).2.1)
             rintro e w128 ⟨rfl, hb⟩
             refine ⟨_, rfl, ?_⟩
             have n0_ := tV aA hb
             have n1_ := tR aK hb
             have n2_ := tK aC hb
             have n3_ := tK aE hb
             have n4_ := tK aH hb
             have n5_ := tK aJ hb
             have n6_ := tB HB hb
             clear aA
             clear aK
             clear aC
             clear aE
             clear aH
             clear aJ
             clear HB
             have aA := n0_
             have aK := n1_
             have aC := n2_
             have aE := n3_
             have aH := n4_
             have aJ := n5_
             have HB := n6_
             clear n0_ n1_ n2_ n3_ n4_ n5_ n6_
             (try clear hb)
             (try clear hb2)
             (try clear hk)
             (try clear hi)
             refine hK.out _ _ ⟨cA, m7_, (by rw [ha.out]; exact putSel_upk 3 hb_ rfl rfl rfl), (mV aA.out), (mR aK.out), (mK aC.out), (mK aE.out), fun _ => (mK aH.out), (mK aJ.out), (kB HB.out), fun h0_ => absurd ((hoff 5 (by kernel_rfl)).symm.trans h0_) (by decide), fun h0_ => absurd ((hoff 6 (by kernel_rfl)).symm.trans h0_) (by decide), fun h0_ => absurd ((hoff 7 (by kernel_rfl)).symm.trans h0_) (by decide)⟩
            refine steps_cons ?_ ?_
            ·rintro b a w' ⟨cA, m7_, ha, Q_HO_409002, Q_HO_420002, Q_BK408, Q_BK409, Q_BK410, Q_BK419, Q_HB, Q_HO431, Q_BK410_e6, Q_X7_⟩ hb_ hon hoff
             refine ⟨_, rfl, fun K hK => ?_⟩
             have e84 : a.tmps[84]? = some (.agg #[.int .i64 cR, .int .i64 cS, .int .i64 cT, .int .i64 cU, .int .i64 cV, .int .i64 cW, .slice none 0 0, .slice none 0 0]) := by rw [ha]; exact putSel_on (e := (4, 84, .agg #[.int .i64 cR, .int .i64 cS, .int .i64 cT, .int .i64 cU, .int .i64 cV, .int .i64 cW, .slice none 0 0, .slice none 0 0])) 3 rfl rfl (hon 4 (by kernel_rfl)) rfl
             replace ha := Aside0.mk ha
             have aA := Aside0.mk Q_HO_409002
             have aK := Aside0.mk Q_HO_420002
             have aC := Aside0.mk Q_BK408
             have aE := Aside0.mk Q_BK409
             have aJ := Aside0.mk Q_BK419
             have HB := Aside0.mk Q_HB
             refine Kd.R_lit_step k53 _ 53 ?hg (N := 85) ?hd (xs := ([(⟨cR, cS, cT, cU, cV, cW, jQ, jR⟩ : S53)] : List (S53))) (inner := [.int .i64 cR, .int .i64 cS, .int .i64 cT, .int .i64 cU, .int .i64 cV, .int .i64 cW, .slice none 0 0, .slice none 0 0]) (ok := fun _ => True) (okp := fun _ => True) ?hr ?hp (fun _ hk => hk) trivial (Below.refl _ _) (Nat.le_refl _) (by simp) ?_; (case hd => rfl); (case hg => rfl); (case hr => first | (go_simp; done) | (go_simp; rfl)); (case hp => exact (Reps.c8 (show Kd.M k53 _ _ _ (⟨cR, cS, cT, cU, cV, cW, jQ, jR⟩ : S53) [.int .i64 cR, .int .i64 cS, .int .i64 cT, .int .i64 cU, .int .i64 cV, .int .i64 cW, .slice none 0 0, .slice none 0 0] from (k53_mkM _ _ _ (⟨cR, cS, cT, cU, cV, cW, jQ, jR⟩ : S53) )) (Reps.none _ _)))
             intro cA w130 ho131 hb hg_ hnew_
             clear hg_ hnew_
             (first | rw [← o6.out] at ho131 | (simp only [Int.reduceToNat] at ho131; rw [← o6.out] at ho131))
             have n0_ := Aside0.mk (Kd.V_elder' (mV aA.out) (Kd.R_base ho131) hb)
             have n1_ := tR aK hb
             have n2_ := Aside0.mk (Kd.R_lower (Kd.R_newB (Kd.R_newM (M := fun k_ => (w.heap.size ≤ k_)) ho131 (kZ HB.out) (fun k_ h_ => h_)) (mK aE.out)) (kZ HB.out))
             have n3_ := tK aC hb
             have n4_ := tK aE hb
             have n6_ := tK aJ hb
             have n7_ := tB HB hb
             have z_BK410 := fun (h0_ : b 6 = false) => (show w130.heap[bB]? = some (.cells #[.int .i64 0, .int .i64 0, .slice none 0 0, .int .i64 0, .int .i64 0] 24 (0, 0)) from by first | exact (blk_below (g := bB) (o := .cells #[.int .i64 0, .int .i64 0, .slice none 0 0, .int .i64 0, .int .i64 0] 24 (0, 0)) (mK (Q_BK410 h0_)) hb))
             have z_BK410_e6 := fun (h0_ : b 6 = true) => (show w130.heap[bB]? = some (.cells #[.int .i64 bE, .int .i64 bF, .slice bX aY.length bY, .int .i64 aQ, .int .i64 bJ] 24 (0, 0)) from by first | exact (blk_below (g := bB) (o := .cells #[.int .i64 bE, .int .i64 bF, .slice bX aY.length bY, .int .i64 aQ, .int .i64 bJ] 24 (0, 0)) (mK (Q_BK410_e6 h0_)) hb))
             clear aA
             clear aK
             clear aC
             clear aE
             clear aJ
             clear HB
             have aA := n0_
             have aK := n1_
             have eQ := n2_
             have aC := n3_
             have aE := n4_
             have aJ := n6_
             have HB := n7_
             clear n0_ n1_ n2_ n3_ n4_ n6_ n7_
             clear hb ho131
             refine hK.out _ _ ⟨cA, m7_, (by rw [ha.out]; exact putSel_upk 4 hb_ rfl rfl rfl), (mV (Kd.V_mono aA.out (fun _ hk => ⟨hk.1.1, ⟨hk.1.2.1, ⟨hk.1.2.2.1, ⟨hk.1.2.2.2.1, ⟨hk.1.2.2.2.2.1, hk.1.2.2.2.2.2⟩⟩⟩⟩⟩))), (mR aK.out), (mK aC.out), (mK aE.out), z_BK410, (mK aJ.out), (kB HB.out), fun _ => (mR (Kd.R_mono eQ.out (fun _ hk => ⟨hk.1.1, hk.2⟩))), z_BK410_e6, fun h0_ => absurd ((hoff 7 (by kernel_rfl)).symm.trans h0_) (by decide)⟩
            refine steps_cons ?_ ?_
            ·rintro b a w' ⟨cA, m7_, ha, Q_HO_409002, Q_HO_420002, Q_BK408, Q_BK409, Q_BK410, Q_BK419, Q_HB, Q_HO431, Q_BK410_e6, Q_X7_⟩ hb_ hon hoff
             refine ⟨_, rfl, fun K hK => ?_⟩
             have e4 : a.tmps[4]? = some (.pointer (some ⟨bB, 0, none⟩)) := by rw [ha]; exact (putSel_off rfl).trans rfl
             have e80 : a.tmps[80]? = some (.agg #[.int .i64 bE, .int .i64 bF, .slice bX aY.length bY, .int .i64 aQ, .int .i64 bJ]) := by rw [ha]; exact putSel_on (e := (0, 80, .agg #[.int .i64 bE, .int .i64 bF, .slice bX aY.length bY, .int .i64 aQ, .int .i64 bJ])) 0 rfl rfl (hon 0 (by kernel_rfl)) rfl
             replace ha := Aside0.mk ha
             have aA := Aside0.mk Q_HO_409002
             have aK := Aside0.mk Q_HO_420002
             have aC := Aside0.mk Q_BK408
             have aE := Aside0.mk Q_BK409
             have aH := Aside0.mk (Q_BK410 hb_)
             have aJ := Aside0.mk Q_BK419
             have HB := Aside0.mk Q_HB
             have hs130 : w'.cell? ⟨bB, 0, none⟩ = some (.int .i64 0) := (blk_cell aH.out 0).trans rfl
             have hfs130 := blk_frozen aH.out 0
             have hns130_0 := bC.out
             have hns130_1 := aZ.out
             have hns130_3 := bH.out
             have hms130_0 := bM.out
             have hms130_1 := bG.out
             have hms130_3 := aN.out
             have hs131 : w'.cell? ⟨bB, 1, none⟩ = some (.int .i64 0) := (blk_cell aH.out 1).trans rfl
             have hfs131 := blk_frozen aH.out 1
             have hns131_0 := bC.out
             have hns131_1 := aZ.out
             have hns131_3 := bH.out
             have hms131_0 := bM.out
             have hms131_1 := bG.out
             have hms131_3 := aN.out
             have hs132 : w'.cell? ⟨bB, 2, none⟩ = some (.slice none 0 0) := (blk_cell aH.out 2).trans rfl
             have hfs132 := blk_frozen aH.out 2
             have hns132_0 := bC.out
             have hns132_1 := aZ.out
             have hns132_3 := bH.out
             have hms132_0 := bM.out
             have hms132_1 := bG.out
             have hms132_3 := aN.out
             have hs133 : w'.cell? ⟨bB, 3, none⟩ = some (.int .i64 0) := (blk_cell aH.out 3).trans rfl
             have hfs133 := blk_frozen aH.out 3
             have hns133_0 := bC.out
             have hns133_1 := aZ.out
             have hns133_3 := bH.out
             have hms133_0 := bM.out
             have hms133_1 := bG.out
             have hms133_3 := aN.out
             have hs134 : w'.cell? ⟨bB, 4, none⟩ = some (.int .i64 0) := (blk_cell aH.out 4).trans rfl
             have hfs134 := blk_frozen aH.out 4
             have hns134_0 := bC.out
             have hns134_1 := aZ.out
             have hns134_3 := bH.out
             have hms134_0 := bM.out
             have hms134_1 := bG.out
             have hms134_3 := aN.out
             refine skip_ (w1 := ?_) (by rfl) rfl ?_ ?_
             rotate_left
             ·go_simp
              rfl
             refine hK.out _ _ ⟨cA, m7_, (by rw [ha.out]; exact putSel_none (v := undef) rfl), (mV (Kd.V_mono (vf5 bB 0 (Kd.V_mono aA.out (fun k_ hk => (⟨hk, hk.2.2.2.2.1⟩ : _ ∧ k_ ≠ bB))) (fun _ hk => hk.2) (.int .i64 bE) (.int .i64 bF) (.slice bX aY.length bY) (.int .i64 aQ) (.int .i64 bJ)) (fun _ hk => ⟨hk.1.1, ⟨hk.1.2.1, ⟨hk.1.2.2.1, ⟨hk.1.2.2.2.1, ⟨hk.1.2.2.2.2.1, hk.1.2.2.2.2.2⟩⟩⟩⟩⟩))), (mR (Kd.R_mono (rf5 bB 0 (Kd.R_types aK.out aH.out (by decide)) (fun _ hk => hk.2) (.int .i64 bE) (.int .i64 bF) (.slice bX aY.length bY) (.int .i64 aQ) (.int .i64 bJ)) (fun _ hk => hk.1))), (by exact (mK (fr (fr (fr (fr (fr aC.out bC.out) bC.out) bC.out) bC.out) bC.out))), (by exact (mK (fr (fr (fr (fr (fr aE.out aZ.out) aZ.out) aZ.out) aZ.out) aZ.out))), fun h0_ => absurd ((up_self b 6).symm.trans h0_) (by decide), (by exact (mK (fr (fr (fr (fr (fr aJ.out bH.out) bH.out) bH.out) bH.out) bH.out))), (kB HB.out), fun h0_ => (mR (Kd.R_mono (rf5 bB 0 (Kd.R_types (Q_HO431 h0_) aH.out (by decide)) (fun _ hk => hk.2) (.int .i64 bE) (.int .i64 bF) (.slice bX aY.length bY) (.int .i64 aQ) (.int .i64 bJ)) (fun _ hk => ⟨hk.1.1, hk.1.2⟩))), fun _ => (by exact (mK (pt5_0_5 aH.out))), fun h0_ => absurd ((hoff 7 (by kernel_rfl)).symm.trans h0_) (by decide)⟩
            refine steps_cons ?_ ?_
            ·rintro b a w' ⟨cA, m7_, ha, Q_HO_409002, Q_HO_420002, Q_BK408, Q_BK409, Q_BK410, Q_BK419, Q_HB, Q_HO431, Q_BK410_e6, Q_X7_⟩ hb_ hon hoff
             refine ⟨_, rfl, fun K hK => ?_⟩
             have e85 : a.tmps[85]? = some (cA) := by rw [ha]; exact putSel_on (e := (5, 85, cA)) 4 rfl rfl (hon 5 (by kernel_rfl)) rfl
             replace ha := Aside0.mk ha
             have aA := Aside0.mk Q_HO_409002
             have aK := Aside0.mk Q_HO_420002
             have aC := Aside0.mk Q_BK408
             have aE := Aside0.mk Q_BK409
             have aJ := Aside0.mk Q_BK419
             have HB := Aside0.mk Q_HB
             have eQ := Aside0.mk (Q_HO431 (hon 5 (by kernel_rfl)))
             have aH := Aside0.mk (Q_BK410_e6 (hon 6 (by kernel_rfl)))
             refine value_ (w1 := w') (v := cA) (by rfl) rfl ?_ ?_
             ·go_simp
              (try simp only [i64_w])
              try rfl
             refine hK.out _ _ ⟨cA, (cA), (by rw [ha.out]; exact putSel_upk 5 hb_ rfl rfl rfl), Q_HO_409002, Q_HO_420002, Q_BK408, Q_BK409, fun h0_ => absurd ((hon 6 (by kernel_rfl)).symm.trans h0_) (by decide), Q_BK419, Q_HB, Q_HO431, Q_BK410_e6, fun _ => rfl⟩
            exact steps_nil
           rintro b a w136 hall ⟨cA, m7_, ha, Q_HO_409002, Q_HO_420002, Q_BK408, Q_BK409, Q_BK410, Q_BK419, Q_HB, Q_HO431, Q_BK410_e6, Q_X7_⟩
           clear aC aE aH aJ HB aA aK
           have hb0_ := hall 0 (by kernel_rfl)
           have hb1_ := hall 1 (by kernel_rfl)
           have hb3_ := hall 3 (by kernel_rfl)
           have hb4_ := hall 4 (by kernel_rfl)
           have hb5_ := hall 5 (by kernel_rfl)
           have hb6_ := hall 6 (by kernel_rfl)
           have hb7_ := hall 7 (by kernel_rfl)
           subst ha
           obtain rfl := Q_X7_ hb7_
           simp only [putSel, hb0_, hb1_, hb3_, hb4_, hb5_, hb6_, hb7_, if_true, Act.put, List.setIfInBounds_toArray, List.set_cons_zero, List.set_cons_succ]
           have aA := Aside0.mk Q_HO_409002
           clear Q_HO_409002
           have aK := Aside0.mk Q_HO_420002
           clear Q_HO_420002
           have aC := Aside0.mk Q_BK408
           clear Q_BK408
           have aE := Aside0.mk Q_BK409
           clear Q_BK409
           clear Q_BK410
           have aJ := Aside0.mk Q_BK419
           clear Q_BK419
           have HB := Aside0.mk Q_HB
           clear Q_HB
           have eQ := Aside0.mk (Q_HO431 hb5_)
           clear Q_HO431
           have aH := Aside0.mk (Q_BK410_e6 hb6_)
           clear Q_BK410_e6
           clear hall hb0_ hb1_ hb3_ hb4_ hb5_ hb6_ hb7_
           try go_wp2
           refine bodyPost_ret (results_ct rfl _ _ bB 24 #[.int .i64 bE, .int .i64 bF, .slice bX aY.length bY, .int .i64 aQ, .int .i64 bJ] (0, 0) _ rfl (mK aH.out) Try.underlying24 rfl (by kernel_rfl)) rfl ?_
           exact ⟨_, _, by first | rfl | (simp [errW_none, errW_some] <;> rfl) | (simp [*, errW_none, errW_some] <;> rfl), Kd.V_mono (Kd.R_V (mR (Kd.R_apart' aK.out (Kd.R_typed eQ.out) (by decide)))) (fun k_ hk => by first | exact ⟨(.inr (hk.1)), hk.2⟩ | exact (.inr (hk))), by refine mR ?_; exact Kd.R_mono eQ.out (fun _ hk => hk.1), (kB HB.out)⟩
          ·replace c117 := Bool.eq_false_iff.mpr c117
           subst c117
           have H1 : (if aX = 11 then ((standbyref32_has.f kj81 aM aQ).bind fun eT => (standbyref32_Learn.j3 kj81 eT aR aT aM aU aW aX bI bO bP aQ bD bE bF aY b3 bJ)) else (standbyref32_Learn.j3 kj81 false aR aT aM aU aW aX bI bO bP aQ bD bE bF aY b3 bJ)) = some (r1, r2, r3, r4, r5, r6) := by rw [if_neg (show ¬ (false = true) by decide)] at H; exact H
           clear H
           have H := H1
           clear H1
           have HC137 := Aside0.mk H
           clear H
           go_upto_region 12 with (fail)
           go_cut [95] (fun v95 wc => ∃ (kq : Nat) (eM : Bool), v95 = .bool eM ∧ Aside0 (standbyref32_Learn.j3 kq eM aR aT aM aU aW aX bI bO bP aQ bD bE bF aY b3 bJ = some (r1, r2, r3, r4, r5, r6)) ∧ Aside0 (kq ≤ kj81) ∧ Aside0 (Kd.V (Kd.int .i64) 3 wc w.heap.size (fun k_ => (cI k_ ∨ w.heap.size ≤ k_) ∧ some k_ ≠ ((.slice bX aY.length bY) : Value).ownBlock ∧ k_ ≠ bA ∧ k_ ≠ aV ∧ k_ ≠ bB ∧ k_ ≠ aI) (.slice bV aM.length bQ) aM) ∧ Aside0 (Kd.R (Kd.int .i64) 3 wc w.heap.size (fun k_ => (w.heap.size ≤ k_)) (.slice bX aY.length bY) aY) ∧ Aside0 (wc.heap[bA]? = some (.cells #[.int .i64 aR, .int .i64 aT, (.slice bV aM.length bQ), .int .i64 aU, .int .i64 aW] 24 (0, 0))) ∧ Aside0 (wc.heap[aV]? = some (.cells #[.int .i64 aX, .int .i64 bI, .int .i64 bO, .int .i64 bP, .int .i64 aQ, .int .i64 bD, q1_6, q1_7] 53 (0, 0))) ∧ Aside0 (wc.heap[bB]? = some (.cells #[.int .i64 0, .int .i64 0, (.slice none 0 0), .int .i64 0, .int .i64 0] 24 (0, 0))) ∧ Aside0 (wc.heap[aI]? = some (.cells #[.int .i64 bE, .int .i64 bF, (.slice bX aY.length bY), .int .i64 b3, .int .i64 bJ] 24 (0, 0))) ∧ Aside0 (Below w.heap.size w wc))
           case first =>
            have H := HC137.out
            clear HC137
            by_cases c138 : aX = 11
            ·rw [if_pos c138] at H
             have cP : (aX == 11) = true := beq_iff_eq.mpr c138
             have kN : (aX != 11) = false := bne_eq_false_iff_eq.mpr c138
             clear c138
             (first | rw [cP] | (simp only [i64_w, i32_w]; rw [cP]) | skip)
             replace H := Option.bind_eq_some_iff.mp H
             obtain ⟨eT, A1390, H⟩ := H
             (try dsimp only at H)
             have A139 := Aside0.mk A1390
             clear A1390
             have H' := Aside0.mk H
             clear H
             have hnb140 := bL.out
             have hnc140 := bK.out
             have hnb141 := aZ.out
             have hnc141 := bG.out
             have hnb142 := aD.out
             have hnc142 := bT.out
             obtain ⟨kO, kP, kQ, kR, kS, kT, kU, kV⟩ := cz8 aE.out
             obtain ⟨kW, kX, kY, k0, k1, k2, k3, k4⟩ := fz8 aE.out
             have hnb144 := bC.out
             have hnc144 := bM.out
             have hnb145 := aG.out
             have hnc145 := bS.out
             obtain ⟨k6, k7, k8, k9, lA⟩ := cz5 aC.out
             obtain ⟨lB, lC, lD, lE, lF⟩ := fz5 aC.out
             go_wp2_with (first | (go_at_call 43; (with_reducible refine (standbyref32_has.calls kj81 _ _ aM aQ eT _ ?side1 ?side2 A139.out).mono ?_); (case side1 => repeat (first | exact (Kd.V_reads' aA.out).2.2 | (with_reducible refine Kd.C_alloc ?_ _) | (with_reducible refine Kd.C_drewN ?_ _) | (with_reducible refine Kd.C_drew ?_))); (case side2 => exact (Kd.V_reads' aA.out).2.1); rintro e w' ⟨rfl, ⟨nd, rfl⟩⟩))
             go_meet
             case rel => exact ⟨_, (eT), (by first | rfl | (simp; done) | (simp [*]; done)), H', ⟨by have := HJ2.out; have := HJ41.out; have := HJ81.out; first | omega | exact Nat.le_refl _⟩, ⟨by refine mV ?_; exact aA.out⟩, ⟨by refine mR ?_; exact aK.out⟩, ⟨by refine mK ?_; exact aC.out⟩, ⟨by refine mK ?_; exact aE.out⟩, ⟨by refine mK ?_; exact aH.out⟩, ⟨by refine mK ?_; exact aJ.out⟩, ⟨kB HB.out⟩⟩
            ·rw [if_neg c138] at H
             have cP : (aX == 11) = false := beq_eq_false_iff_ne.mpr c138
             have kN : (aX != 11) = true := bne_iff_ne.mpr c138
             (first | rw [cP] | (simp only [i64_w, i32_w]; rw [cP]) | skip)
             have H' := Aside0.mk H
             clear H
             have hnb147 := bL.out
             have hnc147 := bK.out
             have hnb148 := aZ.out
             have hnc148 := bG.out
             have hnb149 := aD.out
             have hnc149 := bT.out
             obtain ⟨lG, lH, lI, lJ, lK, lL, lM, lN⟩ := cz8 aE.out
             obtain ⟨lO, lP, lQ, lR, lS, lT, lU, lV⟩ := fz8 aE.out
             go_wp2
             go_meet
             case rel => exact ⟨_, (false), (by first | rfl | (simp; done) | (simp [*]; done)), H', ⟨by have := HJ2.out; have := HJ41.out; have := HJ81.out; first | omega | exact Nat.le_refl _⟩, ⟨by refine mV ?_; exact aA.out⟩, ⟨by refine mR ?_; exact aK.out⟩, ⟨by refine mK ?_; exact aC.out⟩, ⟨by refine mK ?_; exact aE.out⟩, ⟨by refine mK ?_; exact aH.out⟩, ⟨by refine mK ?_; exact aJ.out⟩, ⟨kB HB.out⟩⟩
           case rest =>
            clear HC137
            try clear c1
            try clear q1
            try clear c2
            try clear p2
            try clear c3
            try clear c4
            try clear c5
            try clear c6
            try clear c7
            try clear c8
            try clear c11
            try clear c12
            try clear c13
            try clear c14
            try clear c49
            try clear c117
            try clear c119
            try clear c120
            try clear c121
            try clear c123
            try clear c124
            try clear c138
            try clear cP
            try clear kN
            try clear c140
            try clear c141
            try clear c142
            try clear c144
            try clear c145
            try clear c147
            try clear c148
            try clear c149
            try clear jS jT jU jV jW jX jY jZ
            try clear kD kE kF kG kH
            try clear kO kP kQ kR kS kT kU kV
            try clear k6 k7 k8 k9 lA
            try clear lG lH lI lJ lK lL lM lN
            try clear j4 j5 j6 j7 j8 j9 kA kC
            try clear kI kJ kK kL kM
            try clear kW kX kY k0 k1 k2 k3 k4
            try clear lB lC lD lE lF
            try clear lO lP lQ lR lS lT lU lV
            try clear cX cY cZ c0 dA
            try clear dB dC dD dE dF
            try clear dG dH dI dJ dK
            try clear dM dN dO dP dQ
            try clear dR dS dT dU dV
            try clear dX dY dZ d0 d1 d2 d3 d4
            try clear d5 d6 d7 d8 d9 eA eB eC
            try clear eD eE eF eG eH eI eJ eK
            try clear hU hV hW hX hY
            try clear hZ h0 h1 h2 h3
            try clear h4 h5 h6 h7 h8
            try clear h9 iA iB iC iD
            try clear iE iF iG iH iI iJ iK iL
            try clear iM iN iO iP iQ
            try clear iR iS iT iU iV
            try clear iW iX iY iZ i0
            try clear i1 i2 i3 i4 i5
            try clear i6 i7 i8 i9 jA
            try clear jB jC jD jE jF jG jH jI
            try clear jJ jK jL jM jN
            try clear p2
            try clear q1
            obtain ⟨kq, eM, rfl, HA, HJ136, aA, aK, aC, aE, aH, aJ, HB⟩ := hcut
            cases kq with
            | zero => exact absurd HA.out (by simp [standbyref32_Learn.j3])
            | succ kj136 =>
             have H := HA.out
             clear HA
             simp only [standbyref32_Learn.j3] at H
             by_cases c151 : eM = true
             ·subst c151
              have H1 : (standbyref32_Learn.l0 kj136 0 aR aT aM aU aW aX bI bO bP aQ bD bE bF ([] : List Int) (mx aU aQ) aQ) = some (r1, r2, r3, r4, r5, r6) := by rw [if_pos rfl] at H; exact H
              clear H
              have H := H1
              clear H1
              obtain ⟨cO, eR⟩ : ∃ j_ : Int, (mx aU aQ) = j_ := ⟨_, rfl⟩
              replace H : (standbyref32_Learn.l0 kj136 0 aR aT aM aU aW aX bI bO bP aQ bD bE bF ([] : List Int) cO aQ) = some (r1, r2, r3, r4, r5, r6) := by first | (rw [eR] at H; exact H) | (simp only [eR] at H ⊢; exact H)
              have hji152_ : (if aU < aQ then aQ else aU) = cO := eR
              have H' := Aside0.mk H
              clear H
              try go_wp2
              have n0_ := Aside0.mk (Kd.V_drew aA.out)
              have n1_ := Aside0.mk (Kd.R_drew aK.out)
              have n2_ := Aside0.mk (blk_drew aC.out)
              have n3_ := Aside0.mk (blk_drew aE.out)
              have n4_ := Aside0.mk (blk_drew aH.out)
              have n5_ := Aside0.mk (blk_drew aJ.out)
              have n6_ := Aside0.mk (below_drew1 HB.out)
              clear aA
              clear aK
              clear aC
              clear aE
              clear aH
              clear aJ
              clear HB
              have aA := n0_
              have aK := n1_
              have aC := n2_
              have aE := n3_
              have aH := n4_
              have aJ := n5_
              have HB := n6_
              clear n0_ n1_ n2_ n3_ n4_ n5_ n6_
              refine start_ (n := 13) (S := fun w' => w'.cell? ⟨aV, 0, none⟩ = some (.int .i64 aX) ∧ w'.cell? ⟨aV, 1, none⟩ = some (.int .i64 bI) ∧ w'.cell? ⟨aV, 2, none⟩ = some (.int .i64 bO) ∧ w'.cell? ⟨aV, 3, none⟩ = some (.int .i64 bP) ∧ w'.cell? ⟨aV, 4, none⟩ = some (.int .i64 aQ) ∧ w'.cell? ⟨aV, 5, none⟩ = some (.int .i64 bD) ∧ w'.cell? ⟨aV, 6, none⟩ = some (q1_6) ∧ w'.cell? ⟨aV, 7, none⟩ = some (q1_7) ∧ w'.cell? ⟨bA, 0, none⟩ = some (.int .i64 aR) ∧ w'.cell? ⟨bA, 1, none⟩ = some (.int .i64 aT) ∧ w'.cell? ⟨bA, 2, none⟩ = some (.slice bV aM.length bQ) ∧ w'.cell? ⟨bA, 3, none⟩ = some (.int .i64 aU) ∧ w'.cell? ⟨bA, 4, none⟩ = some (.int .i64 aW)) (ds := []) #[false, false, false, false, false, false, false, false, false, false, false, false, false] (by kernel_rfl) rfl rfl (ct8 aE.out ⟨(blk_cell aC.out 0).trans rfl, (blk_cell aC.out 1).trans rfl, (blk_cell aC.out 2).trans rfl, (blk_cell aC.out 3).trans rfl, (blk_cell aC.out 4).trans rfl⟩) (fun hHeld => ?_); refine with_tabW standbyref32_Learn.tab13 standbyref32_Learn.bits13 (fun HT_ HW_ => ?_)
              generalize wc.drew = w153 at aA aK aC aE aH aJ HB hHeld ⊢
              refine pure_ (i := 0) (N := some 96) (v := ?_) (a' := ?_) (bs 13 1) rfl rfl (any_of HT_.out (by kernel_rfl)) (fun _ _ _ h => h) (Or.inl ⟨by rfl, ?_⟩) ?_ ?_
              rotate_left
              ·intro w'
               go_simp
               with_reducible rfl
              rotate_left
              ·simp only [Act.put, sA, sB, sC, i64_w, i32_w]
               rfl
              refine pure_ (i := 2) (N := some 98) (v := ?_) (a' := ?_) (bs 13 5) rfl rfl (any_of HT_.out (by kernel_rfl)) (fun _ _ _ h => h) (Or.inl ⟨by rfl, ?_⟩) ?_ ?_
              rotate_left
              ·intro w'
               go_simp
               with_reducible rfl
              rotate_left
              ·simp only [Act.put, sA, sB, sC, i64_w, i32_w]
               rfl
              refine pure_ (i := 4) (N := some 100) (v := ?_) (a' := ?_) (bs 13 21) rfl rfl (any_of HT_.out (by kernel_rfl)) (fun _ _ _ h => h) (Or.inl ⟨by rfl, ?_⟩) ?_ ?_
              rotate_left
              ·intro w'
               go_simp
               with_reducible rfl
              rotate_left
              ·simp only [Act.put, sA, sB, sC, i64_w, i32_w]
               rfl
              refine take_ (i := 1) (N := some 97) (v := ?_) (a' := ?_) (bs 13 23) rfl rfl (take_ofW HT_.out HW_.out (by kernel_rfl)) (fun _ _ _ h => h) (Or.inl ⟨by rfl, ?_⟩) hHeld ?_ ?_
              rotate_left
              ·rintro w' ⟨s0, s1, s2, s3, s4, s5, s6, s7, s8, s9, s10, s11, s12⟩
               go_simp
               with_reducible rfl
              rotate_left
              ·simp only [Act.put, sA, sB, sC, i64_w, i32_w]
               rfl
              refine pure_ (i := 7) (N := some 103) (v := ?_) (a' := ?_) (bs 13 151) rfl rfl (any_of HT_.out (by kernel_rfl)) (fun _ _ _ h => h) (Or.inl ⟨by rfl, ?_⟩) ?_ ?_
              rotate_left
              ·intro w'
               go_simp
               with_reducible rfl
              rotate_left
              ·simp only [Act.put, sA, sB, sC, i64_w, i32_w]
               rfl
              refine take_ (i := 3) (N := some 99) (v := ?_) (a' := ?_) (bs 13 159) rfl rfl (take_ofW HT_.out HW_.out (by kernel_rfl)) (fun _ _ _ h => h) (Or.inl ⟨by rfl, ?_⟩) hHeld ?_ ?_
              rotate_left
              ·rintro w' ⟨s0, s1, s2, s3, s4, s5, s6, s7, s8, s9, s10, s11, s12⟩
               go_simp
               with_reducible rfl
              rotate_left
              ·simp only [Act.put, sA, sB, sC, i64_w, i32_w]
               rfl
              refine take_ (i := 5) (N := some 101) (v := ?_) (a' := ?_) (bs 13 191) rfl rfl (take_ofW HT_.out HW_.out (by kernel_rfl)) (fun _ _ _ h => h) (Or.inl ⟨by rfl, ?_⟩) hHeld ?_ ?_
              rotate_left
              ·rintro w' ⟨s0, s1, s2, s3, s4, s5, s6, s7, s8, s9, s10, s11, s12⟩
               go_simp
               with_reducible rfl
              rotate_left
              ·simp only [Act.put, sA, sB, sC, i64_w, i32_w]
               rfl
              refine pure_ (i := 6) (N := some 102) (v := ?_) (a' := ?_) (bs 13 255) rfl rfl (any_of HT_.out (by kernel_rfl)) (fun _ _ _ h => h) (Or.inl ⟨by rfl, ?_⟩) ?_ ?_
              rotate_left
              ·intro w'
               go_simp
               with_reducible rfl
              rotate_left
              ·simp only [Act.put, sA, sB, sC, i64_w, i32_w]
               rfl
              refine one_ (i := 8) (N := none) (bs 13 511) rfl rfl (one_of HT_.out (by kernel_rfl)) (by decide) (fun K hK => ?_)
              have hs154 : w153.cell? ⟨aI, 4, none⟩ = some (.int .i64 bJ) := (blk_cell aJ.out 4).trans rfl
              have hfs154 := blk_frozen aJ.out 4
              have hns154_0 := aG.out
              have hns154_1 := aD.out
              have hns154_2 := aN.out
              have hms154_0 := bS.out
              have hms154_1 := bT.out
              have hms154_2 := bH.out
              refine skip_ (w1 := ?_) (by rfl) rfl ?_ ?_
              rotate_left
              ·go_simp
               rfl
              refine hK.out _ _ ⟨(cf1 aD.out hHeld.1), (cf1 aD.out hHeld.2.1), (cf1 aD.out hHeld.2.2.1), (cf1 aD.out hHeld.2.2.2.1), (cf1 aD.out hHeld.2.2.2.2.1), (cf1 aD.out hHeld.2.2.2.2.2.1), (cf1 aD.out hHeld.2.2.2.2.2.2.1), (cf1 aD.out hHeld.2.2.2.2.2.2.2.1), (cf1 aG.out hHeld.2.2.2.2.2.2.2.2.1), (cf1 aG.out hHeld.2.2.2.2.2.2.2.2.2.1), (cf1 aG.out hHeld.2.2.2.2.2.2.2.2.2.2.1), (cf1 aG.out hHeld.2.2.2.2.2.2.2.2.2.2.2.1), (cf1 aG.out hHeld.2.2.2.2.2.2.2.2.2.2.2.2)⟩ (fun hHeld => ?_)
              clear hK K
              refine pure_ (i := 9) (N := some 104) (v := ?_) (a' := ?_) (bs 13 1023) rfl rfl (any_of HT_.out (by kernel_rfl)) (fun _ _ _ h => h) (Or.inl ⟨by rfl, ?_⟩) ?_ ?_
              rotate_left
              ·intro w'
               go_simp
               with_reducible rfl
              rotate_left
              ·simp only [Act.put, sA, sB, sC, i64_w, i32_w]
               rfl
              refine one_ (i := 10) (N := none) (bs 13 2047) rfl rfl (one_of HT_.out (by kernel_rfl)) (by decide) (fun K hK => ?_)
              have hs155 : w153.cell? ⟨aI, 3, none⟩ = some (.int .i64 b3) := (blk_cell aJ.out 3).trans rfl
              have hfs155 := blk_frozen aJ.out 3
              have hns155_0 := aG.out
              have hns155_1 := aD.out
              have hns155_2 := aN.out
              have hms155_0 := bS.out
              have hms155_1 := bT.out
              have hms155_2 := bH.out
              refine skip_ (w1 := ?_) (by rfl) rfl ?_ ?_
              rotate_left
              ·go_simp
               rfl
              refine hK.out _ _ ⟨(cf1 aD.out hHeld.1), (cf1 aD.out hHeld.2.1), (cf1 aD.out hHeld.2.2.1), (cf1 aD.out hHeld.2.2.2.1), (cf1 aD.out hHeld.2.2.2.2.1), (cf1 aD.out hHeld.2.2.2.2.2.1), (cf1 aD.out hHeld.2.2.2.2.2.2.1), (cf1 aD.out hHeld.2.2.2.2.2.2.2.1), (cf1 aG.out hHeld.2.2.2.2.2.2.2.2.1), (cf1 aG.out hHeld.2.2.2.2.2.2.2.2.2.1), (cf1 aG.out hHeld.2.2.2.2.2.2.2.2.2.2.1), (cf1 aG.out hHeld.2.2.2.2.2.2.2.2.2.2.2.1), (cf1 aG.out hHeld.2.2.2.2.2.2.2.2.2.2.2.2)⟩ (fun hHeld => ?_)
              clear hK K
              refine pure_ (i := 11) (N := some 105) (v := ?_) (a' := ?_) (bs 13 4095) rfl rfl (any_of HT_.out (by kernel_rfl)) (fun _ _ _ h => h) (Or.inl ⟨by rfl, ?_⟩) ?_ ?_
              rotate_left
              ·intro w'
               go_simp
               with_reducible rfl
              rotate_left
              ·simp only [Act.put, sA, sB, sC, i64_w, i32_w]
               rfl
              refine one_ (i := 12) (N := none) (bs 13 8191) rfl rfl (one_of HT_.out (by kernel_rfl)) (by decide) (fun K hK => ?_)
              have hs156 : w153.cell? ⟨aI, 2, none⟩ = some (.slice bX aY.length bY) := (blk_cell aJ.out 2).trans rfl
              have hfs156 := blk_frozen aJ.out 2
              have hns156_0 := aG.out
              have hns156_1 := aD.out
              have hns156_2 := aN.out
              have hms156_0 := bS.out
              have hms156_1 := bT.out
              have hms156_2 := bH.out
              refine skip_ (w1 := ?_) (by rfl) rfl ?_ ?_
              rotate_left
              ·go_simp
               rfl
              refine hK.out _ _ ⟨(cf1 aD.out hHeld.1), (cf1 aD.out hHeld.2.1), (cf1 aD.out hHeld.2.2.1), (cf1 aD.out hHeld.2.2.2.1), (cf1 aD.out hHeld.2.2.2.2.1), (cf1 aD.out hHeld.2.2.2.2.2.1), (cf1 aD.out hHeld.2.2.2.2.2.2.1), (cf1 aD.out hHeld.2.2.2.2.2.2.2.1), (cf1 aG.out hHeld.2.2.2.2.2.2.2.2.1), (cf1 aG.out hHeld.2.2.2.2.2.2.2.2.2.1), (cf1 aG.out hHeld.2.2.2.2.2.2.2.2.2.2.1), (cf1 aG.out hHeld.2.2.2.2.2.2.2.2.2.2.2.1), (cf1 aG.out hHeld.2.2.2.2.2.2.2.2.2.2.2.2)⟩ (fun hHeld => ?_)
              clear hK K
              refine done_ (done_of HT_.out (by kernel_rfl)) ?_
              try go_wp2
              go_loopg [7] kj136 (fun kq v7 w' => ∃ (b5 : Int) (cD : List Int) (cK : Value), v7 = .int .i64 b5 ∧ Aside0 (standbyref32_Learn.l0 kq b5 aR aT aM aU aW aX bI bO bP aQ bD bE bF cD cO aQ = some (r1, r2, r3, r4, r5, r6)) ∧ Aside0 (kq ≤ kj136) ∧ Aside0 (Kd.V (Kd.int .i64) 3 w' w.heap.size (fun k_ => (cI k_ ∨ w.heap.size ≤ k_) ∧ some k_ ≠ (cK : Value).ownBlock ∧ k_ ≠ bA ∧ k_ ≠ aV ∧ k_ ≠ bB ∧ k_ ≠ aI) (.slice bV aM.length bQ) aM) ∧ Aside0 (Kd.R (Kd.int .i64) 3 w' w.heap.size (fun k_ => (w.heap.size ≤ k_)) cK cD) ∧ Aside0 (w'.heap[bA]? = some (.cells #[.int .i64 aR, .int .i64 aT, (.slice bV aM.length bQ), .int .i64 aU, .int .i64 aW] 24 (0, 0))) ∧ Aside0 (w'.heap[aV]? = some (.cells #[.int .i64 aX, .int .i64 bI, .int .i64 bO, .int .i64 bP, .int .i64 aQ, .int .i64 bD, q1_6, q1_7] 53 (0, 0))) ∧ Aside0 (w'.heap[bB]? = some (.cells #[.int .i64 0, .int .i64 0, (.slice none 0 0), .int .i64 0, .int .i64 0] 24 (0, 0))) ∧ Aside0 (w'.heap[aI]? = some (.cells #[.int .i64 bE, .int .i64 bF, cK, .int .i64 cO, .int .i64 aQ] 24 (0, 0))) ∧ Aside0 (Below w.heap.size w w'))
              case atStart => exact ⟨(0), (([] : List Int)), (.slice none 0 0), (by first | rfl | (simp; done) | (simp [*]; done)), H', ⟨Nat.le_refl _⟩, ⟨by refine mV ?_; exact Kd.V_mono (Kd.V_far (p := ⟨aI, 2, none⟩) (Kd.V_far (p := ⟨aI, 3, none⟩) (Kd.V_far (p := ⟨aI, 4, none⟩) (Kd.V_mono aA.out (fun k_ hk => (⟨hk, hk.2.2.2.2.2⟩ : _ ∧ k_ ≠ aI))) (fun _ hk => hk.2) (.int .i64 aQ)) (fun _ hk => hk.2) (.int .i64 cO)) (fun _ hk => hk.2) (.slice none 0 0)) (fun _ hk => ⟨hk.1.1, ⟨(by simp [Value.ownBlock]), ⟨hk.1.2.2.1, ⟨hk.1.2.2.2.1, ⟨hk.1.2.2.2.2.1, hk.1.2.2.2.2.2⟩⟩⟩⟩⟩)⟩, ⟨by first | exact Kd.R_nil _ _ _ _ _ | exact Kd.N_nil _ _ _ _ _ | exact Kd.V_nil _ _ _ _ _ | exact Kd.Q_nil _ _ _ _ _ | exact Kd.S_nil _ _ _ _ _⟩, ⟨by exact (mK (fr (fr (fr aC.out aG.out) aG.out) aG.out))⟩, ⟨by exact (mK (fr (fr (fr aE.out aD.out) aD.out) aD.out))⟩, ⟨by exact (mK (fr (fr (fr aH.out aN.out) aN.out) aN.out))⟩, ⟨by exact (mK (pt5_2_1 (pt5_3_1 (pt5_4_1 aJ.out))))⟩, ⟨kB HB.out⟩⟩
              case round =>
               clear H'
               try clear c1
               try clear q1
               try clear c2
               try clear p2
               try clear c3
               try clear c4
               try clear c5
               try clear c6
               try clear c7
               try clear c8
               try clear c11
               try clear c12
               try clear c13
               try clear c14
               try clear c15
               try clear c49
               try clear c117
               try clear c119
               try clear c120
               try clear c121
               try clear c123
               try clear c124
               try clear c138
               try clear cP
               try clear kN
               try clear c140
               try clear c141
               try clear c142
               try clear c144
               try clear c145
               try clear c147
               try clear c148
               try clear c149
               try clear c151
               try clear jS jT jU jV jW jX jY jZ
               try clear kD kE kF kG kH
               try clear kO kP kQ kR kS kT kU kV
               try clear k6 k7 k8 k9 lA
               try clear lG lH lI lJ lK lL lM lN
               try clear j4 j5 j6 j7 j8 j9 kA kC
               try clear kI kJ kK kL kM
               try clear kW kX kY k0 k1 k2 k3 k4
               try clear lB lC lD lE lF
               try clear lO lP lQ lR lS lT lU lV
               try clear cX cY cZ c0 dA
               try clear dB dC dD dE dF
               try clear dG dH dI dJ dK
               try clear dM dN dO dP dQ
               try clear dR dS dT dU dV
               try clear dX dY dZ d0 d1 d2 d3 d4
               try clear d5 d6 d7 d8 d9 eA eB eC
               try clear eD eE eF eG eH eI eJ eK
               try clear hU hV hW hX hY
               try clear hZ h0 h1 h2 h3
               try clear h4 h5 h6 h7 h8
               try clear h9 iA iB iC iD
               try clear iE iF iG iH iI iJ iK iL
               try clear iM iN iO iP iQ
               try clear iR iS iT iU iV
               try clear iW iX iY iZ i0
               try clear i1 i2 i3 i4 i5
               try clear i6 i7 i8 i9 jA
               try clear jB jC jD jE jF jG jH jI
               try clear jJ jK jL jM jN
               try clear p2
               try clear q1
               obtain ⟨b5, cD, cK, rfl, HA, HK5, aA, aK, aC, aE, aH, aJ, HB⟩ := hrel
               cases gk with
               | zero => exact absurd HA.out (by simp [standbyref32_Learn.l0])
               | succ k5 =>
                have H := HA.out
                clear HA
                simp only [standbyref32_Learn.l0] at H
                by_cases c157 : b5 < (aM.length : Int)
                ·rw [if_pos c157] at H
                 have rA : decide (b5 < (aM.length : Int)) = true := decide_eq_true c157
                 clear c157
                 by_cases c158 : 0 ≤ b5
                 ·rw [if_pos c158] at H
                  have c158b0 : decide (0 ≤ b5) = true := decide_eq_true c158
                  clear c158
                  by_cases c159 : (rd aM b5) > aQ
                  ·rw [if_pos c159] at H
                   have rB : decide (aQ < (rd aM b5)) = true := decide_eq_true c159
                   clear c159
                   by_cases c160 : cD.length < 17592186044416
                   ·rw [if_pos c160] at H
                    have rC := Aside0.mk c160
                    clear c160
                    obtain ⟨lW, eS⟩ : ∃ y_ : List Int, y_ = (cD ++ [rd aM b5]) := ⟨_, rfl⟩
                    replace H : (standbyref32_Learn.l0 k5 (wrap64 (b5 + 1)) aR aT aM aU aW aX bI bO bP aQ bD bE bF lW cO aQ) = some (r1, r2, r3, r4, r5, r6) := by first | (rw [eS]; with_reducible exact H) | (have H2_ := (Option.bind_some _ _).symm.trans H; rw [eS]; with_reducible exact H2_) | (have H2_ := (Option.bind_some _ _).symm.trans H; with_reducible exact H2_) | with_reducible exact H | (rw [eS]; exact H) | exact H
                    have rG := Aside0.mk eS
                    clear eS
                    have H' := Aside0.mk H
                    clear H
                    have hnb161 := bK.out
                    have hnc161 := bL.out
                    have hnb162 := bC.out
                    have hnc162 := bM.out
                    have hnb163 := aG.out
                    have hnc163 := bS.out
                    obtain ⟨rM, rN, rO, rP, rQ⟩ := cz5 aC.out
                    obtain ⟨rR, rS, rT, rU, rV⟩ := fz5 aC.out
                    try go_wp2
                    have n0_ := Aside0.mk (Kd.V_drew aA.out)
                    have n1_ := Aside0.mk (Kd.R_drew aK.out)
                    have n2_ := Aside0.mk (blk_drew aC.out)
                    have n3_ := Aside0.mk (blk_drew aE.out)
                    have n4_ := Aside0.mk (blk_drew aH.out)
                    have n5_ := Aside0.mk (blk_drew aJ.out)
                    have n6_ := Aside0.mk (below_drew1 HB.out)
                    clear aA
                    clear aK
                    clear aC
                    clear aE
                    clear aH
                    clear aJ
                    clear HB
                    have aA := n0_
                    have aK := n1_
                    have aC := n2_
                    have aE := n3_
                    have aH := n4_
                    have aJ := n5_
                    have HB := n6_
                    clear n0_ n1_ n2_ n3_ n4_ n5_ n6_
                    have p433 : 0 ≤ (b5 : Int) := of_decide_eq_true (by first | (with_reducible assumption) | assumption)
                    have q433 : b5 < (aM.length : Int) := of_decide_eq_true (by first | (with_reducible assumption) | assumption)
                    obtain ⟨cQ, e433, dL⟩ := Kd.at_int (Kd.V_reads' aA.out).2.2 b5 p433 q433
                    cases e433
                    replace p433 := eq_true p433
                    replace q433 := eq_true q433
                    refine start_ (n := 8) (S := fun w' => w'.cell? ⟨bA, 0, none⟩ = some (.int .i64 aR) ∧ w'.cell? ⟨bA, 1, none⟩ = some (.int .i64 aT) ∧ w'.cell? ⟨bA, 2, none⟩ = some (.slice (some cQ) aM.length bQ) ∧ w'.cell? ⟨bA, 3, none⟩ = some (.int .i64 aU) ∧ w'.cell? ⟨bA, 4, none⟩ = some (.int .i64 aW) ∧ w'.cell? ⟨aV, 0, none⟩ = some (.int .i64 aX) ∧ w'.cell? ⟨aV, 1, none⟩ = some (.int .i64 bI) ∧ w'.cell? ⟨aV, 2, none⟩ = some (.int .i64 bO) ∧ w'.cell? ⟨aV, 3, none⟩ = some (.int .i64 bP) ∧ w'.cell? ⟨aV, 4, none⟩ = some (.int .i64 aQ) ∧ w'.cell? ⟨aV, 5, none⟩ = some (.int .i64 bD) ∧ w'.cell? ⟨aV, 6, none⟩ = some (q1_6) ∧ w'.cell? ⟨aV, 7, none⟩ = some (q1_7) ∧ w'.cell? (cQ.add (b5).toNat) = some (.int .i64 (rd aM b5))) (ds := []) #[false, false, false, false, false, false, false, false] (by kernel_rfl) rfl rfl (ct5 aC.out ⟨(blk_cell aE.out 0).trans rfl, (blk_cell aE.out 1).trans rfl, (blk_cell aE.out 2).trans rfl, (blk_cell aE.out 3).trans rfl, (blk_cell aE.out 4).trans rfl, (blk_cell aE.out 5).trans rfl, (blk_cell aE.out 6).trans rfl, (blk_cell aE.out 7).trans rfl, dL⟩) (fun hHeld => ?_); refine with_tabW standbyref32_Learn.tab17 standbyref32_Learn.bits17 (fun HT_ HW_ => ?_)
                    generalize wr.drew = w165 at aA aK aC aE aH aJ HB dL hHeld ⊢
                    refine pure_ (i := 0) (N := some 113) (v := ?_) (a' := ?_) (bs 8 1) rfl rfl (any_of HT_.out (by kernel_rfl)) (fun _ _ _ h => h) (Or.inl ⟨by rfl, ?_⟩) ?_ ?_
                    rotate_left
                    ·intro w'
                     go_simp
                     with_reducible rfl
                    rotate_left
                    ·simp only [Act.put, sA, sB, sC, i64_w, i32_w]
                     rfl
                    refine pure_ (i := 2) (N := some 115) (v := ?_) (a' := ?_) (bs 8 5) rfl rfl (any_of HT_.out (by kernel_rfl)) (fun _ _ _ h => h) (Or.inl ⟨by rfl, ?_⟩) ?_ ?_
                    rotate_left
                    ·intro w'
                     go_simp
                     with_reducible rfl
                    rotate_left
                    ·simp only [Act.put, sA, sB, sC, i64_w, i32_w]
                     rfl
                    refine pure_ (i := 5) (N := some 118) (v := ?_) (a' := ?_) (bs 8 37) rfl rfl (any_of HT_.out (by kernel_rfl)) (fun _ _ _ h => h) (Or.inl ⟨by rfl, ?_⟩) ?_ ?_
                    rotate_left
                    ·intro w'
                     go_simp
                     with_reducible rfl
                    rotate_left
                    ·simp only [Act.put, sA, sB, sC, i64_w, i32_w]
                     rfl
                    refine take_ (i := 1) (N := some 114) (v := ?_) (a' := ?_) (bs 8 39) rfl rfl (take_ofW HT_.out HW_.out (by kernel_rfl)) (fun _ _ _ h => h) (Or.inl ⟨by rfl, ?_⟩) hHeld ?_ ?_
                    rotate_left
                    ·rintro w' ⟨s0, s1, s2, s3, s4, s5, s6, s7, s8, s9, s10, s11, s12, s13⟩
                     go_simp
                     with_reducible rfl
                    rotate_left
                    ·simp only [Act.put, sA, sB, sC, i64_w, i32_w]
                     rfl
                    refine pure_ (i := 3) (N := some 116) (v := ?_) (a' := ?_) (bs 8 47) rfl rfl (any_of HT_.out (by kernel_rfl)) (fun _ _ _ h => h) (Or.inl ⟨by rfl, ?_⟩) ?_ ?_
                    rotate_left
                    ·intro w'
                     go_simp
                     with_reducible rfl
                    rotate_left
                    ·simp only [Act.put, sA, sB, sC, i64_w, i32_w]
                     rfl
                    refine take_ (i := 4) (N := some 117) (v := ?_) (a' := ?_) (bs 8 63) rfl rfl (take_ofW HT_.out HW_.out (by kernel_rfl)) (fun _ _ _ h => h) (Or.inl ⟨by rfl, ?_⟩) hHeld ?_ ?_
                    rotate_left
                    ·rintro w' ⟨s0, s1, s2, s3, s4, s5, s6, s7, s8, s9, s10, s11, s12, s13⟩
                     go_simp
                     with_reducible rfl
                    rotate_left
                    ·simp only [Act.put, sA, sB, sC, i64_w, i32_w]
                     rfl
                    refine take_ (i := 6) (N := some 119) (v := ?_) (a' := ?_) (bs 8 127) rfl rfl (take_ofW HT_.out HW_.out (by kernel_rfl)) (fun _ _ _ h => h) (Or.inl ⟨by rfl, ?_⟩) hHeld ?_ ?_
                    rotate_left
                    ·rintro w' ⟨s0, s1, s2, s3, s4, s5, s6, s7, s8, s9, s10, s11, s12, s13⟩
                     go_simp
                     with_reducible rfl
                    rotate_left
                    ·simp only [Act.put, sA, sB, sC, i64_w, i32_w]
                     rfl
                    refine pure_ (i := 7) (N := some 120) (v := ?_) (a' := ?_) (bs 8 255) rfl rfl (any_of HT_.out (by kernel_rfl)) (fun _ _ _ h => h) (Or.inl ⟨by rfl, ?_⟩) ?_ ?_
                    rotate_left
                    ·intro w'
                     go_simp
                     with_reducible rfl
                    rotate_left
                    ·simp only [Act.put, sA, sB, sC, i64_w, i32_w]
                     rfl
                    refine done_ (done_of HT_.out (by kernel_rfl)) ?_
                    try go_wp2
                    have n0_ := Aside0.mk (Kd.V_drew aA.out)
                    have n1_ := Aside0.mk (Kd.R_drew aK.out)
                    have n2_ := Aside0.mk (blk_drew aC.out)
                    have n3_ := Aside0.mk (blk_drew aE.out)
                    have n4_ := Aside0.mk (blk_drew aH.out)
                    have n5_ := Aside0.mk (blk_drew aJ.out)
                    have n6_ := Aside0.mk (below_drew1 HB.out)
                    clear aA
                    clear aK
                    clear aC
                    clear aE
                    clear aH
                    clear aJ
                    clear HB
                    have aA := n0_
                    have aK := n1_
                    have aC := n2_
                    have aE := n3_
                    have aH := n4_
                    have aJ := n5_
                    have HB := n6_
                    clear n0_ n1_ n2_ n3_ n4_ n5_ n6_
                    have p434 : 0 ≤ (b5 : Int) := of_decide_eq_true (by first | (with_reducible assumption) | assumption)
                    have q434 : b5 < (aM.length : Int) := of_decide_eq_true (by first | (with_reducible assumption) | assumption)
                    obtain ⟨rH, e434, mZ⟩ := Kd.at_int (Kd.V_reads' aA.out).2.2 b5 p434 q434
                    obtain rfl : cQ = rH := (by injection e434)
                    replace p434 := eq_true p434
                    replace q434 := eq_true q434
                    refine start_ (n := 11) (S := fun w' => w'.cell? ⟨aI, 0, none⟩ = some (.int .i64 bE) ∧ w'.cell? ⟨aI, 1, none⟩ = some (.int .i64 bF) ∧ w'.cell? ⟨aI, 2, none⟩ = some (cK) ∧ w'.cell? ⟨aI, 3, none⟩ = some (.int .i64 cO) ∧ w'.cell? ⟨aI, 4, none⟩ = some (.int .i64 aQ) ∧ w'.cell? ⟨bA, 0, none⟩ = some (.int .i64 aR) ∧ w'.cell? ⟨bA, 1, none⟩ = some (.int .i64 aT) ∧ w'.cell? ⟨bA, 2, none⟩ = some (.slice (some cQ) aM.length bQ) ∧ w'.cell? ⟨bA, 3, none⟩ = some (.int .i64 aU) ∧ w'.cell? ⟨bA, 4, none⟩ = some (.int .i64 aW) ∧ w'.cell? (cQ.add (b5).toNat) = some (.int .i64 (rd aM b5))) (ds := [8, 10]) #[false, false, false, false, false, false, false, false, false, false, false] (by kernel_rfl) rfl rfl (ct5 aJ.out ⟨(blk_cell aC.out 0).trans rfl, (blk_cell aC.out 1).trans rfl, (blk_cell aC.out 2).trans rfl, (blk_cell aC.out 3).trans rfl, (blk_cell aC.out 4).trans rfl, mZ⟩) (fun hHeld => ?_); refine with_tabW standbyref32_Learn.tab18 standbyref32_Learn.bits18 (fun HT_ HW_ => ?_)
                    generalize w165.drew = w166 at aA aK aC aE aH aJ HB mZ hHeld ⊢
                    refine pure_ (i := 0) (N := some 121) (v := ?_) (a' := ?_) (bs 11 1) rfl rfl (any_of HT_.out (by kernel_rfl)) (fun _ _ _ h => h) (Or.inl ⟨by rfl, ?_⟩) ?_ ?_
                    rotate_left
                    ·intro w'
                     go_simp
                     with_reducible rfl
                    rotate_left
                    ·simp only [Act.put, sA, sB, sC, i64_w, i32_w]
                     rfl
                    refine pure_ (i := 2) (N := some 123) (v := ?_) (a' := ?_) (bs 11 5) rfl rfl (any_of HT_.out (by kernel_rfl)) (fun _ _ _ h => h) (Or.inl ⟨by rfl, ?_⟩) ?_ ?_
                    rotate_left
                    ·intro w'
                     go_simp
                     with_reducible rfl
                    rotate_left
                    ·simp only [Act.put, sA, sB, sC, i64_w, i32_w]
                     rfl
                    refine pure_ (i := 4) (N := some 125) (v := ?_) (a' := ?_) (bs 11 21) rfl rfl (any_of HT_.out (by kernel_rfl)) (fun _ _ _ h => h) (Or.inl ⟨by rfl, ?_⟩) ?_ ?_
                    rotate_left
                    ·intro w'
                     go_simp
                     with_reducible rfl
                    rotate_left
                    ·simp only [Act.put, sA, sB, sC, i64_w, i32_w]
                     rfl
                    refine take_ (i := 1) (N := some 122) (v := ?_) (a' := ?_) (bs 11 23) rfl rfl (take_ofW HT_.out HW_.out (by kernel_rfl)) (fun _ _ _ h => h) (Or.inl ⟨by rfl, ?_⟩) hHeld ?_ ?_
                    rotate_left
                    ·rintro w' ⟨s0, s1, s2, s3, s4, s5, s6, s7, s8, s9, s10⟩
                     go_simp
                     with_reducible rfl
                    rotate_left
                    ·simp only [Act.put, sA, sB, sC, i64_w, i32_w]
                     rfl
                    refine take_ (i := 3) (N := some 124) (v := ?_) (a' := ?_) (bs 11 31) rfl rfl (take_ofW HT_.out HW_.out (by kernel_rfl)) (fun _ _ _ h => h) (Or.inl ⟨by rfl, ?_⟩) hHeld ?_ ?_
                    rotate_left
                    ·rintro w' ⟨s0, s1, s2, s3, s4, s5, s6, s7, s8, s9, s10⟩
                     go_simp
                     with_reducible rfl
                    rotate_left
                    ·simp only [Act.put, sA, sB, sC, i64_w, i32_w]
                     rfl
                    refine pure_ (i := 5) (N := some 126) (v := ?_) (a' := ?_) (bs 11 63) rfl rfl (any_of HT_.out (by kernel_rfl)) (fun _ _ _ h => h) (Or.inl ⟨by rfl, ?_⟩) ?_ ?_
                    rotate_left
                    ·intro w'
                     go_simp
                     with_reducible rfl
                    rotate_left
                    ·simp only [Act.put, sA, sB, sC, i64_w, i32_w]
                     rfl
                    refine take_ (i := 6) (N := some 127) (v := ?_) (a' := ?_) (bs 11 127) rfl rfl (take_ofW HT_.out HW_.out (by kernel_rfl)) (fun _ _ _ h => h) (Or.inl ⟨by rfl, ?_⟩) hHeld ?_ ?_
                    rotate_left
                    ·rintro w' ⟨s0, s1, s2, s3, s4, s5, s6, s7, s8, s9, s10⟩
                     go_simp
                     with_reducible rfl
                    rotate_left
                    ·simp only [Act.put, sA, sB, sC, i64_w, i32_w]
                     rfl
                    refine one_ (i := 7) (N := some 128) (bs 11 255) rfl rfl (one_of HT_.out (by kernel_rfl)) (by decide) (fun K hK => ?_)
                    refine value_ (w1 := ?_) (v := ?_) (by rfl) rfl ?_ ?_
                    rotate_left 2
                    ·go_simp
                     constructor
                     ·rfl
                     ·rfl
                    refine hK.out _ _ ⟨(blk_cell (blk_alloc aJ.out _) 0).trans rfl, (blk_cell (blk_alloc aJ.out _) 1).trans rfl, (blk_cell (blk_alloc aJ.out _) 2).trans rfl, (blk_cell (blk_alloc aJ.out _) 3).trans rfl, (blk_cell (blk_alloc aJ.out _) 4).trans rfl, (blk_cell (blk_alloc aC.out _) 0).trans rfl, (blk_cell (blk_alloc aC.out _) 1).trans rfl, (blk_cell (blk_alloc aC.out _) 2).trans rfl, (blk_cell (blk_alloc aC.out _) 3).trans rfl, (blk_cell (blk_alloc aC.out _) 4).trans rfl, (World.cell?_alloc_lt _ _ _ (World.block_lt_of_cell? _ _ (hHeld.2.2.2.2.2.2.2.2.2.2))).trans (hHeld.2.2.2.2.2.2.2.2.2.2)⟩ (fun hHeld => ?_)
                    clear hK K
                    refine norm_ (a' := ?_) ?_ ?_
                    rotate_left
                    ·show Act.put _ (some 128) _ = _
                     simp only [Act.put, sA, sB, sC, i64_w, i32_w]
                     rfl
                    refine last_ (i := 8) (N := some 129) (bs 11 511) rfl rfl (one_of HT_.out (by kernel_rfl)) (by decide) (fun K hK => ?_)
                    refine Kd.R_append_step (Kd.int .i64) (w0 := w) w.heap.size (by rfl) (.tmp 122) (.tmp 128) 22 3 (.int .i64 0) 8 rfl Try.underlying22 info3 rfl (by decide) (by omega) cK cD (rd aM b5) [.int .i64 (rd aM b5)] (fun k_ => (w.heap.size ≤ k_)) (fun _ => False) rfl rfl ?aP (fun _ hk => hk.elim) ?aF ?aO ?aB ?aS ?aL ?_
                    (case aP => exact rfl)
                    (case aB => exact (kB HB.out))
                    (case aF => exact (fun k_ hk => (Nat.le_trans (kZ HB.out) hk)))
                    (case aO => exact (mR aK.out))
                    (case aS => exact (kZ HB.out))
                    (case aL => have := rC.out; omega)
                    intro v436 w167 ho hb hg hat
                    rw [← rG.out] at ho
                    have n0_ := Aside0.mk (Kd.V_afterv (ok := (fun k_ => (cI k_ ∨ w.heap.size ≤ k_) ∧ k_ ≠ bA ∧ k_ ≠ aV ∧ k_ ≠ bB ∧ k_ ≠ aI)) (mV (Kd.V_mono aA.out (fun _ hk => ⟨⟨hk.1, ⟨hk.2.2.1, ⟨hk.2.2.2.1, ⟨hk.2.2.2.2.1, hk.2.2.2.2.2⟩⟩⟩⟩, hk.2.1⟩))) hg hat)
                    have n1_ := Aside0.mk (blk_grown (mK aC.out) hg (Kd.R_ne aK.out aC.out (by decide)))
                    have n2_ := Aside0.mk (blk_grown (mK aE.out) hg (Kd.R_ne aK.out aE.out (by decide)))
                    have n3_ := Aside0.mk (blk_grown (mK aH.out) hg (Kd.R_ne aK.out aH.out (by decide)))
                    have n4_ := Aside0.mk (blk_grown (mK aJ.out) hg (Kd.R_ne aK.out aJ.out (by decide)))
                    have n5_ := Aside0.mk (hb)
                    have n6_ := Aside0.mk (ho)
                    clear aA
                    clear aC
                    clear aE
                    clear aH
                    clear aJ
                    clear HB
                    clear aK
                    have aA := n0_
                    have aC := n1_
                    have aE := n2_
                    have aH := n3_
                    have aJ := n4_
                    have HB := n5_
                    have o7 := n6_
                    clear n0_ n1_ n2_ n3_ n4_ n5_ n6_
                    clear ho hb hg hat
                    obtain ⟨m1, m2, o8⟩ := Kd.R_slice o7.out
                    (first | subst o8 | (injection o8 with f1_ f2_ f3_; have f4_ := f1_.symm; have f5_ := f3_.symm; clear f1_ f2_ f3_; subst f4_; subst f5_))
                    refine hK.out _ _ ?_
                    clear hK K
                    refine norm_ (a' := ?_) ?_ ?_
                    rotate_left
                    ·show Act.put _ (some 129) _ = _
                     simp only [Act.put, sA, sB, sC, i64_w, i32_w]
                     rfl
                    refine pure_ (i := 9) (N := some 130) (v := ?_) (a' := ?_) (bs 11 1023) rfl rfl (any_of HT_.out (by kernel_rfl)) (fun _ _ _ h => h) (Or.inl ⟨by rfl, ?_⟩) ?_ ?_
                    rotate_left
                    ·intro w'
                     go_simp
                     with_reducible rfl
                    rotate_left
                    ·simp only [Act.put, sA, sB, sC, i64_w, i32_w]
                     rfl
                    refine last_ (i := 10) (N := none) (bs 11 2047) rfl rfl (one_of HT_.out (by kernel_rfl)) (by decide) (fun K hK => ?_)
                    have hs169 : w167.cell? ⟨aI, 2, none⟩ = some (cK) := (blk_cell aJ.out 2).trans rfl
                    have hfs169 := blk_frozen aJ.out 2
                    have hns169_0 := aG.out
                    have hns169_1 := aD.out
                    have hns169_2 := aN.out
                    have hms169_0 := bS.out
                    have hms169_1 := bT.out
                    have hms169_2 := bH.out
                    refine skip_ (w1 := ?_) (by rfl) rfl ?_ ?_
                    rotate_left
                    ·go_simp
                     rfl
                    refine hK.out _ _ ?_
                    clear hK K
                    refine done_ (done_of HT_.out (by kernel_rfl)) ?_
                    try go_wp2
                    go_roundg k5
                    case measure => have := HJ2.out; have := HJ41.out; have := HJ81.out; have := HJ136.out; have := HK5.out; omega
                    case rel => exact ⟨(wrap64 (b5 + 1)), (lW), (.slice m1 lW.length m2), (by first | rfl | (simp; done) | (simp [*]; done)), H', ⟨by have := HJ2.out; have := HJ41.out; have := HJ81.out; have := HJ136.out; have := HK5.out; omega⟩, ⟨by refine mV ?_; exact Kd.V_mono (Kd.V_far (p := ⟨aI, 2, none⟩) (Kd.V_mono aA.out (fun k_ hk => (⟨hk, hk.1.2.2.2.2⟩ : _ ∧ k_ ≠ aI))) (fun _ hk => hk.2) (.slice m1 lW.length m2)) (fun _ hk => ⟨hk.1.1.1, ⟨hk.1.2, ⟨hk.1.1.2.1, ⟨hk.1.1.2.2.1, ⟨hk.1.1.2.2.2.1, hk.1.1.2.2.2.2⟩⟩⟩⟩⟩)⟩, ⟨by refine mR ?_; exact Kd.R_mono (Kd.R_far (p := ⟨aI, 2, none⟩) (Kd.R_types o7.out aJ.out (by decide)) (fun _ hk => hk.2) (.slice m1 lW.length m2)) (fun _ hk => hk.1)⟩, ⟨by exact (mK (fr aC.out aG.out))⟩, ⟨by exact (mK (fr aE.out aD.out))⟩, ⟨by exact (mK (fr aH.out aN.out))⟩, ⟨by exact (mK (pt5_2_1 aJ.out))⟩, ⟨kB HB.out⟩⟩
                   ·rw [if_neg c160] at H
                    exact absurd H (by simp)
                  ·rw [if_neg c159] at H
                   have rB : decide (aQ < (rd aM b5)) = false := decide_eq_false c159
                   clear c159
                   have H' := Aside0.mk H
                   clear H
                   have hnb170 := bK.out
                   have hnc170 := bL.out
                   have hnb171 := bC.out
                   have hnc171 := bM.out
                   have hnb172 := aG.out
                   have hnc172 := bS.out
                   obtain ⟨rW, rX, rY, rZ, r0⟩ := cz5 aC.out
                   obtain ⟨r7, r8, r9, sD, sE⟩ := fz5 aC.out
                   try go_wp2
                   have n0_ := Aside0.mk (Kd.V_drew aA.out)
                   have n1_ := Aside0.mk (Kd.R_drew aK.out)
                   have n2_ := Aside0.mk (blk_drew aC.out)
                   have n3_ := Aside0.mk (blk_drew aE.out)
                   have n4_ := Aside0.mk (blk_drew aH.out)
                   have n5_ := Aside0.mk (blk_drew aJ.out)
                   have n6_ := Aside0.mk (below_drew1 HB.out)
                   clear aA
                   clear aK
                   clear aC
                   clear aE
                   clear aH
                   clear aJ
                   clear HB
                   have aA := n0_
                   have aK := n1_
                   have aC := n2_
                   have aE := n3_
                   have aH := n4_
                   have aJ := n5_
                   have HB := n6_
                   clear n0_ n1_ n2_ n3_ n4_ n5_ n6_
                   have p433 : 0 ≤ (b5 : Int) := of_decide_eq_true (by first | (with_reducible assumption) | assumption)
                   have q433 : b5 < (aM.length : Int) := of_decide_eq_true (by first | (with_reducible assumption) | assumption)
                   obtain ⟨cQ, e433, dL⟩ := Kd.at_int (Kd.V_reads' aA.out).2.2 b5 p433 q433
                   cases e433
                   replace p433 := eq_true p433
                   replace q433 := eq_true q433
                   refine start_ (n := 8) (S := fun w' => w'.cell? ⟨bA, 0, none⟩ = some (.int .i64 aR) ∧ w'.cell? ⟨bA, 1, none⟩ = some (.int .i64 aT) ∧ w'.cell? ⟨bA, 2, none⟩ = some (.slice (some cQ) aM.length bQ) ∧ w'.cell? ⟨bA, 3, none⟩ = some (.int .i64 aU) ∧ w'.cell? ⟨bA, 4, none⟩ = some (.int .i64 aW) ∧ w'.cell? ⟨aV, 0, none⟩ = some (.int .i64 aX) ∧ w'.cell? ⟨aV, 1, none⟩ = some (.int .i64 bI) ∧ w'.cell? ⟨aV, 2, none⟩ = some (.int .i64 bO) ∧ w'.cell? ⟨aV, 3, none⟩ = some (.int .i64 bP) ∧ w'.cell? ⟨aV, 4, none⟩ = some (.int .i64 aQ) ∧ w'.cell? ⟨aV, 5, none⟩ = some (.int .i64 bD) ∧ w'.cell? ⟨aV, 6, none⟩ = some (q1_6) ∧ w'.cell? ⟨aV, 7, none⟩ = some (q1_7) ∧ w'.cell? (cQ.add (b5).toNat) = some (.int .i64 (rd aM b5))) (ds := []) #[false, false, false, false, false, false, false, false] (by kernel_rfl) rfl rfl (ct5 aC.out ⟨(blk_cell aE.out 0).trans rfl, (blk_cell aE.out 1).trans rfl, (blk_cell aE.out 2).trans rfl, (blk_cell aE.out 3).trans rfl, (blk_cell aE.out 4).trans rfl, (blk_cell aE.out 5).trans rfl, (blk_cell aE.out 6).trans rfl, (blk_cell aE.out 7).trans rfl, dL⟩) (fun hHeld => ?_); refine with_tabW standbyref32_Learn.tab17 standbyref32_Learn.bits17 (fun HT_ HW_ => ?_)
                   generalize wr.drew = w174 at aA aK aC aE aH aJ HB dL hHeld ⊢
                   refine pure_ (i := 0) (N := some 113) (v := ?_) (a' := ?_) (bs 8 1) rfl rfl (any_of HT_.out (by kernel_rfl)) (fun _ _ _ h => h) (Or.inl ⟨by rfl, ?_⟩) ?_ ?_
                   rotate_left
                   ·intro w'
                    go_simp
                    with_reducible rfl
                   rotate_left
                   ·simp only [Act.put, sA, sB, sC, i64_w, i32_w]
                    rfl
                   refine pure_ (i := 2) (N := some 115) (v := ?_) (a' := ?_) (bs 8 5) rfl rfl (any_of HT_.out (by kernel_rfl)) (fun _ _ _ h => h) (Or.inl ⟨by rfl, ?_⟩) ?_ ?_
                   rotate_left
                   ·intro w'
                    go_simp
                    with_reducible rfl
                   rotate_left
                   ·simp only [Act.put, sA, sB, sC, i64_w, i32_w]
                    rfl
                   refine pure_ (i := 5) (N := some 118) (v := ?_) (a' := ?_) (bs 8 37) rfl rfl (any_of HT_.out (by kernel_rfl)) (fun _ _ _ h => h) (Or.inl ⟨by rfl, ?_⟩) ?_ ?_
                   rotate_left
                   ·intro w'
                    go_simp
                    with_reducible rfl
                   rotate_left
                   ·simp only [Act.put, sA, sB, sC, i64_w, i32_w]
                    rfl
                   refine take_ (i := 1) (N := some 114) (v := ?_) (a' := ?_) (bs 8 39) rfl rfl (take_ofW HT_.out HW_.out (by kernel_rfl)) (fun _ _ _ h => h) (Or.inl ⟨by rfl, ?_⟩) hHeld ?_ ?_
                   rotate_left
                   ·rintro w' ⟨s0, s1, s2, s3, s4, s5, s6, s7, s8, s9, s10, s11, s12, s13⟩
                    go_simp
                    with_reducible rfl
                   rotate_left
                   ·simp only [Act.put, sA, sB, sC, i64_w, i32_w]
                    rfl
                   refine pure_ (i := 3) (N := some 116) (v := ?_) (a' := ?_) (bs 8 47) rfl rfl (any_of HT_.out (by kernel_rfl)) (fun _ _ _ h => h) (Or.inl ⟨by rfl, ?_⟩) ?_ ?_
                   rotate_left
                   ·intro w'
                    go_simp
                    with_reducible rfl
                   rotate_left
                   ·simp only [Act.put, sA, sB, sC, i64_w, i32_w]
                    rfl
                   refine take_ (i := 4) (N := some 117) (v := ?_) (a' := ?_) (bs 8 63) rfl rfl (take_ofW HT_.out HW_.out (by kernel_rfl)) (fun _ _ _ h => h) (Or.inl ⟨by rfl, ?_⟩) hHeld ?_ ?_
                   rotate_left
                   ·rintro w' ⟨s0, s1, s2, s3, s4, s5, s6, s7, s8, s9, s10, s11, s12, s13⟩
                    go_simp
                    with_reducible rfl
                   rotate_left
                   ·simp only [Act.put, sA, sB, sC, i64_w, i32_w]
                    rfl
                   refine take_ (i := 6) (N := some 119) (v := ?_) (a' := ?_) (bs 8 127) rfl rfl (take_ofW HT_.out HW_.out (by kernel_rfl)) (fun _ _ _ h => h) (Or.inl ⟨by rfl, ?_⟩) hHeld ?_ ?_
                   rotate_left
                   ·rintro w' ⟨s0, s1, s2, s3, s4, s5, s6, s7, s8, s9, s10, s11, s12, s13⟩
                    go_simp
                    with_reducible rfl
                   rotate_left
                   ·simp only [Act.put, sA, sB, sC, i64_w, i32_w]
                    rfl
                   refine pure_ (i := 7) (N := some 120) (v := ?_) (a' := ?_) (bs 8 255) rfl rfl (any_of HT_.out (by kernel_rfl)) (fun _ _ _ h => h) (Or.inl ⟨by rfl, ?_⟩) ?_ ?_
                   rotate_left
                   ·intro w'
                    go_simp
                    with_reducible rfl
                   rotate_left
                   ·simp only [Act.put, sA, sB, sC, i64_w, i32_w]
                    rfl
                   refine done_ (done_of HT_.out (by kernel_rfl)) ?_
                   try go_wp2
                   go_roundg k5
                   case measure => have := HJ2.out; have := HJ41.out; have := HJ81.out; have := HJ136.out; have := HK5.out; omega
                   case rel => exact ⟨(wrap64 (b5 + 1)), (cD), (cK), (by first | rfl | (simp; done) | (simp [*]; done)), H', ⟨by have := HJ2.out; have := HJ41.out; have := HJ81.out; have := HJ136.out; have := HK5.out; omega⟩, ⟨by refine mV ?_; exact aA.out⟩, ⟨by refine mR ?_; exact aK.out⟩, ⟨by refine mK ?_; exact aC.out⟩, ⟨by refine mK ?_; exact aE.out⟩, ⟨by refine mK ?_; exact aH.out⟩, ⟨by refine mK ?_; exact aJ.out⟩, ⟨kB HB.out⟩⟩
                 ·rw [if_neg c158] at H
                  exact absurd H (by simp)
                ·rw [if_neg c157] at H
                 have rA : decide (b5 < (aM.length : Int)) = false := decide_eq_false c157
                 clear c157
                 simp only [Option.some.injEq, Prod.mk.injEq] at H
                 obtain ⟨rfl, rfl, rfl, rfl, rfl, rfl⟩ := H
                 have hnb175 := bK.out
                 have hnc175 := bL.out
                 have hnb176 := bC.out
                 have hnc176 := bM.out
                 have hnb177 := aG.out
                 have hnc177 := bS.out
                 obtain ⟨sF, sG, sH, sI, sJ⟩ := cz5 aC.out
                 obtain ⟨sK, sL, sM, sN, sO⟩ := fz5 aC.out
                 have hnb179 := bT.out
                 have hnc179 := aD.out
                 have hnb180 := bH.out
                 have hnc180 := aN.out
                 obtain ⟨sP, sQ, sR, sS, sT⟩ := cz5 aJ.out
                 obtain ⟨sU, sV, sW, sX, sY⟩ := fz5 aJ.out
                 have hnb182 := bG.out
                 have hnc182 := aZ.out
                 obtain ⟨sZ, tA, tC, tD, tE⟩ := cz5 aH.out
                 obtain ⟨tF, tG, tH, tI, tJ⟩ := fz5 aH.out
                 obtain ⟨o9, pA, rI⟩ := Kd.R_slice aK.out
                 subst rI
                 go_wp2
                 refine bodyPost_ret (results_ct rfl _ _ bB 24 #[.int .i64 bE, .int .i64 bF, .slice o9 cD.length pA, .int .i64 cO, .int .i64 aQ] (0, 0) _ rfl (by exact (mK (pt5_0_5 aH.out))) Try.underlying24 rfl (by kernel_rfl)) rfl ?_
                 exact ⟨_, _, by first | rfl | (simp [errW_none, errW_some] <;> rfl) | (simp only [← eR]; first | rfl | (simp [errW_none, errW_some] <;> rfl)) | (simp [*, errW_none, errW_some] <;> rfl), Kd.R_V (mR (Kd.R_mono (rf5 bB 0 (Kd.R_types aK.out aH.out (by decide)) (fun _ hk => hk.2) (.int .i64 bE) (.int .i64 bF) (.slice o9 cD.length pA) (.int .i64 cO) (.int .i64 aQ)) (fun _ hk => ⟨(.inr (hk.1)), (by simp [Value.ownBlock])⟩))), by first | exact Kd.R_nil _ _ _ _ _ | exact Kd.N_nil _ _ _ _ _ | exact Kd.V_nil _ _ _ _ _ | exact Kd.Q_nil _ _ _ _ _ | exact Kd.S_nil _ _ _ _ _, (kB HB.out)⟩
             ·replace c151 := Bool.eq_false_iff.mpr c151
              subst c151
              have H1 : (some (bE, bF, aY, b3, bJ, ([] : List (S53)))) = some (r1, r2, r3, r4, r5, r6) := by rw [if_neg (show ¬ (false = true) by decide)] at H; exact H
              clear H
              have H := H1
              clear H1
              simp only [Option.some.injEq, Prod.mk.injEq] at H
              obtain ⟨rfl, rfl, rfl, rfl, rfl, rfl⟩ := H
              have hnb185 := bS.out
              have hnc185 := aG.out
              have hnb186 := bT.out
              have hnc186 := aD.out
              have hnb187 := bH.out
              have hnc187 := aN.out
              obtain ⟨tL, tM, tN, tO, tP⟩ := cz5 aJ.out
              obtain ⟨tQ, tS, tT, tU, tW⟩ := fz5 aJ.out
              have hnb189 := bM.out
              have hnc189 := bC.out
              have hnb190 := bG.out
              have hnc190 := aZ.out
              obtain ⟨tX, tY, tZ, t0, t1⟩ := cz5 aH.out
              obtain ⟨t2, t3, t4, t5, t6⟩ := fz5 aH.out
              go_wp2
              refine bodyPost_ret (results_ct rfl _ _ bB 24 #[.int .i64 bE, .int .i64 bF, .slice bX aY.length bY, .int .i64 b3, .int .i64 bJ] (0, 0) _ rfl (by exact (mK (pt5_0_5 aH.out))) Try.underlying24 rfl (by kernel_rfl)) rfl ?_
              exact ⟨_, _, by first | rfl | (simp [errW_none, errW_some] <;> rfl) | (simp [*, errW_none, errW_some] <;> rfl), Kd.R_V (mR (Kd.R_mono (rf5 bB 0 (Kd.R_types aK.out aH.out (by decide)) (fun _ hk => hk.2) (.int .i64 bE) (.int .i64 bF) (.slice bX aY.length bY) (.int .i64 b3) (.int .i64 bJ)) (fun _ hk => ⟨(.inr (hk.1)), (by simp [Value.ownBlock])⟩))), by first | exact Kd.R_nil _ _ _ _ _ | exact Kd.N_nil _ _ _ _ _ | exact Kd.V_nil _ _ _ _ _ | exact Kd.Q_nil _ _ _ _ _ | exact Kd.S_nil _ _ _ _ _, (kB HB.out)⟩

end Go.Proofs.Ytedoloapddmanaa.PB
