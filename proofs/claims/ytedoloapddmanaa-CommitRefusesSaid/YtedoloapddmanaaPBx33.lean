-- Written by a program of this session (wip/tools) over the kit's print.
import Derived.Test.YtedoloapddmanaaPBx0
import Derived.Test.YtedoloapddmanaaSh
import Derived.Test.YtedoloapddmanaaSh2
import Derived.Test.YtedoloapddmanaaSh5
import Derived.Test.YtedoloapddmanaaPBx1
import Derived.Test.YtedoloapddmanaaPBx10
import Derived.Test.YtedoloapddmanaaPBx12
import Derived.Test.YtedoloapddmanaaPBx25
import Derived.Test.YtedoloapddmanaaPBx28
import Derived.Test.YtedoloapddmanaaPBx29
namespace Go.Proofs.Ytedoloapddmanaa.PB
open Go.RowKit Go.Proofs.YtedoloapddmanaaW.PrintWords Go.Proofs.YtedoloapddmanaaW.PrintLast Go.Proofs.YtedoloapddmanaaW.PrintMore
attribute [local go_sem] max2_int min2_int max_two min_two max_three min_three max_four min_four   -- for this text's walks alone
set_option linter.unusedVariables false
set_option linter.unusedSimpArgs false

attribute [local go_sem high] eqA26
/-! ### standbylaw32_CommitRefuses: function 11 -/
mutual
def standbylaw32_CommitRefuses.l0 : Nat → List (S71) → Int → Int → Int → List Int → Int → Int → Int → Int → Int → Int → List Int → List (S53) → Bool → Option (Bool)
 | 0, _, _, _, _, _, _, _, _, _, _, _, _, _, _ => none
 | k + 1, x0, x4, b2, bY, bZ, b0, bR, bD, bS, bT, bU, b3, aP, b1 => if x4 < (x0.length : Int) then (if 0 ≤ x4 then ((standbylaw32_step.f k b2 bY bZ b0 bR bD bS bT bU b3 aP b1 ((rd_T71 x0 x4).f0) ((rd_T71 x0 x4).f1)).bind fun cJ => (standbylaw32_CommitRefuses.l1 k x0 x4 0 cJ.1 cJ.2.1 cJ.2.2.1 cJ.2.2.2.1 cJ.2.2.2.2.1 cJ.2.2.2.2.2.1 cJ.2.2.2.2.2.2.1 cJ.2.2.2.2.2.2.2.1 cJ.2.2.2.2.2.2.2.2.1 cJ.2.2.2.2.2.2.2.2.2.1 cJ.2.2.2.2.2.2.2.2.2.2.1 cJ.2.2.2.2.2.2.2.2.2.2.2)) else (none)) else ((standbylaw32_awake.f k).bind fun j5 => (if j5 = true then (some b1) else (none)))
def standbylaw32_CommitRefuses.l1 : Nat → List (S71) → Int → Int → Int → Int → List Int → Int → Int → Int → Int → Int → Int → List Int → List (S53) → Bool → Option (Bool)
 | 0, _, _, _, _, _, _, _, _, _, _, _, _, _, _, _ => none
 | k + 1, x0, x4, x5, b2, bY, bZ, b0, bR, bD, bS, bT, bU, b3, aP, b1 => if x5 < (aP.length : Int) then (if 0 ≤ x5 then (if ((rd_T53 aP x5).f0) = 8 then (standbylaw32_CommitRefuses.j2 k x0 x4 x5 (decide (((rd_T53 aP x5).f5) ≥ bD)) b2 bY bZ b0 bR bD bS bT bU b3 aP b1 ((rd_T53 aP x5).f0) ((rd_T53 aP x5).f1) ((rd_T53 aP x5).f2) ((rd_T53 aP x5).f3) ((rd_T53 aP x5).f4) ((rd_T53 aP x5).f5)) else (if ((rd_T53 aP x5).f0) = 10 then (standbylaw32_CommitRefuses.j2 k x0 x4 x5 (decide (((rd_T53 aP x5).f5) ≥ bD)) b2 bY bZ b0 bR bD bS bT bU b3 aP b1 ((rd_T53 aP x5).f0) ((rd_T53 aP x5).f1) ((rd_T53 aP x5).f2) ((rd_T53 aP x5).f3) ((rd_T53 aP x5).f4) ((rd_T53 aP x5).f5)) else (standbylaw32_CommitRefuses.j2 k x0 x4 x5 true b2 bY bZ b0 bR bD bS bT bU b3 aP b1 ((rd_T53 aP x5).f0) ((rd_T53 aP x5).f1) ((rd_T53 aP x5).f2) ((rd_T53 aP x5).f3) ((rd_T53 aP x5).f4) ((rd_T53 aP x5).f5)))) else (none)) else (standbylaw32_CommitRefuses.l0 k x0 (wrap64 (x4 + 1)) b2 bY bZ b0 bR bD bS bT bU b3 aP b1)
def standbylaw32_CommitRefuses.j2 : Nat → List (S71) → Int → Int → Bool → Int → Int → List Int → Int → Int → Int → Int → Int → Int → List Int → List (S53) → Bool → Int → Int → Int → Int → Int → Int → Option (Bool)
 | 0, _, _, _, _, _, _, _, _, _, _, _, _, _, _, _, _, _, _, _, _, _, _ => none
 | k + 1, x0, x4, x5, x56, b2, bY, bZ, b0, bR, bD, bS, bT, bU, b3, aP, b1, e1, e2, e3, e4, e5, dZ => if x56 = true then (standbylaw32_CommitRefuses.l1 k x0 x4 (wrap64 (x5 + 1)) b2 bY bZ b0 bR bD bS bT bU b3 aP b1) else ((commit_Answer.f k bD bS bT bU e1 e2 e3 e4 e5 dZ ((rd_T53 aP x5).f6) ((rd_T53 aP x5).f7)).bind fun a5 => (if (!(a5.1 == bD) || (!(a5.2.1 == bS) || (!(a5.2.2.1 == bT) || (!(a5.2.2.2.1 == bU))))) = true then (none) else (if (a5.2.2.2.2.length : Int) = 1 then (if 0 < (a5.2.2.2.2.length : Int) then (if ((rd_T53 a5.2.2.2.2 0).f0) = 12 then (standbylaw32_CommitRefuses.j3 k x0 x4 x5 a5.2.2.2.2 (((rd_T53 a5.2.2.2.2 0).f5) != a5.1) b2 bY bZ b0 bR bD bS bT bU b3 aP b1 e1 e2 e3 e4 e5 dZ a5.1 a5.2.1 a5.2.2.1 a5.2.2.2.1) else (none)) else (none)) else (none))))
def standbylaw32_CommitRefuses.j3 : Nat → List (S71) → Int → Int → List (S53) → Bool → Int → Int → List Int → Int → Int → Int → Int → Int → Int → List Int → List (S53) → Bool → Int → Int → Int → Int → Int → Int → Int → Int → Int → Int → Option (Bool)
 | 0, _, _, _, _, _, _, _, _, _, _, _, _, _, _, _, _, _, _, _, _, _, _, _, _, _, _, _ => none
 | k + 1, x0, x4, x5, x8, x88, b2, bY, bZ, b0, bR, bD, bS, bT, bU, b3, aP, b1, e1, e2, e3, e4, e5, dZ, kP, x927001, x927002, x927003 => if x88 = true then (none) else (if 0 < (x8.length : Int) then ((commit_Learn.f k dZ bY bZ b0 bR ((rd_T53 x8 0).f0) ((rd_T53 x8 0).f1) ((rd_T53 x8 0).f2) ((rd_T53 x8 0).f3) ((rd_T53 x8 0).f4) ((rd_T53 x8 0).f5) ((rd_T53 x8 0).f6) ((rd_T53 x8 0).f7)).bind fun cR => (if (cR.2.2.2.2.2.length : Int) = 0 then (if (cR.2.2.1.length : Int) = 0 then (if cR.1 = kP then (if cR.2.2.2.2.1 = bR then (standbylaw32_CommitRefuses.l1 k x0 x4 (wrap64 (x5 + 1)) b2 bY bZ b0 bR bD bS bT bU b3 aP b1) else (none)) else (none)) else (none)) else (none))) else (none))
end
def standbylaw32_CommitRefuses.f (k : Nat) (l0 : List (S71)) : Option (Bool) := if (l0.length : Int) > 60 then ((standbylaw32_awake.f k).bind fun e6 => (some e6)) else ((standbylaw32_begin.f).bind fun bB => (standbylaw32_CommitRefuses.l0 k l0 0 bB.1 bB.2.1 bB.2.2.1 bB.2.2.2.1 bB.2.2.2.2.1 bB.2.2.2.2.2.1 bB.2.2.2.2.2.2.1 bB.2.2.2.2.2.2.2.1 bB.2.2.2.2.2.2.2.2.1 bB.2.2.2.2.2.2.2.2.2.1 bB.2.2.2.2.2.2.2.2.2.2.1 bB.2.2.2.2.2.2.2.2.2.2.2))
theorem standbylaw32_CommitRefuses.mono_l : ∀ k, (∀ y0 y1 y2 y3 y4 y5 y6 y7 y8 y9 y10 y11 y12 y13, LeO (standbylaw32_CommitRefuses.l0 k y0 y1 y2 y3 y4 y5 y6 y7 y8 y9 y10 y11 y12 y13) (standbylaw32_CommitRefuses.l0 (k + 1) y0 y1 y2 y3 y4 y5 y6 y7 y8 y9 y10 y11 y12 y13)) ∧ (∀ y0 y1 y2 y3 y4 y5 y6 y7 y8 y9 y10 y11 y12 y13 y14, LeO (standbylaw32_CommitRefuses.l1 k y0 y1 y2 y3 y4 y5 y6 y7 y8 y9 y10 y11 y12 y13 y14) (standbylaw32_CommitRefuses.l1 (k + 1) y0 y1 y2 y3 y4 y5 y6 y7 y8 y9 y10 y11 y12 y13 y14)) ∧ (∀ y0 y1 y2 y3 y4 y5 y6 y7 y8 y9 y10 y11 y12 y13 y14 y15 y16 y17 y18 y19 y20 y21, LeO (standbylaw32_CommitRefuses.j2 k y0 y1 y2 y3 y4 y5 y6 y7 y8 y9 y10 y11 y12 y13 y14 y15 y16 y17 y18 y19 y20 y21) (standbylaw32_CommitRefuses.j2 (k + 1) y0 y1 y2 y3 y4 y5 y6 y7 y8 y9 y10 y11 y12 y13 y14 y15 y16 y17 y18 y19 y20 y21)) ∧ (∀ y0 y1 y2 y3 y4 y5 y6 y7 y8 y9 y10 y11 y12 y13 y14 y15 y16 y17 y18 y19 y20 y21 y22 y23 y24 y25 y26, LeO (standbylaw32_CommitRefuses.j3 k y0 y1 y2 y3 y4 y5 y6 y7 y8 y9 y10 y11 y12 y13 y14 y15 y16 y17 y18 y19 y20 y21 y22 y23 y24 y25 y26) (standbylaw32_CommitRefuses.j3 (k + 1) y0 y1 y2 y3 y4 y5 y6 y7 y8 y9 y10 y11 y12 y13 y14 y15 y16 y17 y18 y19 y20 y21 y22 y23 y24 y25 y26))
 | 0 => ⟨fun _ _ _ _ _ _ _ _ _ _ _ _ _ _ r h => by simp [standbylaw32_CommitRefuses.l0] at h, fun _ _ _ _ _ _ _ _ _ _ _ _ _ _ _ r h => by simp [standbylaw32_CommitRefuses.l1] at h, fun _ _ _ _ _ _ _ _ _ _ _ _ _ _ _ _ _ _ _ _ _ _ r h => by simp [standbylaw32_CommitRefuses.j2] at h, fun _ _ _ _ _ _ _ _ _ _ _ _ _ _ _ _ _ _ _ _ _ _ _ _ _ _ _ r h => by simp [standbylaw32_CommitRefuses.j3] at h⟩
 | k + 1 => by
  obtain ⟨ih0, ih1, ih2, ih3⟩ := standbylaw32_CommitRefuses.mono_l k
  refine ⟨?_, ?_, ?_, ?_⟩
  ·intro y0 y1 y2 y3 y4 y5 y6 y7 y8 y9 y10 y11 y12 y13
   unfold standbylaw32_CommitRefuses.l0
   repeat' first
   | (with_reducible exact ih0 _ _ _ _ _ _ _ _ _ _ _ _ _ _)
   | (with_reducible exact ih1 _ _ _ _ _ _ _ _ _ _ _ _ _ _ _)
   | (with_reducible exact ih2 _ _ _ _ _ _ _ _ _ _ _ _ _ _ _ _ _ _ _ _ _ _)
   | (with_reducible exact ih3 _ _ _ _ _ _ _ _ _ _ _ _ _ _ _ _ _ _ _ _ _ _ _ _ _ _ _)
   | (with_reducible exact commit_Answer.mono _ _ _ _ _ _ _ _ _ _ _ _ _)
   | (with_reducible exact commit_Learn.mono _ _ _ _ _ _ _ _ _ _ _ _ _ _)
   | (with_reducible exact standbylaw32_awake.mono _)
   | (with_reducible exact standbylaw32_step.mono _ _ _ _ _ _ _ _ _ _ _ _ _ _ _)
   | (with_reducible exact LeO.refl _)
   | (with_reducible exact LeO.none _)
   | (with_reducible refine LeO.ite ?_ ?_)
   | (with_reducible refine LeO.bind ?_ (fun _ => ?_))
   | exact ih0 _ _ _ _ _ _ _ _ _ _ _ _ _ _
   | exact ih1 _ _ _ _ _ _ _ _ _ _ _ _ _ _ _
   | exact ih2 _ _ _ _ _ _ _ _ _ _ _ _ _ _ _ _ _ _ _ _ _ _
   | exact ih3 _ _ _ _ _ _ _ _ _ _ _ _ _ _ _ _ _ _ _ _ _ _ _ _ _ _ _
   | exact commit_Answer.mono _ _ _ _ _ _ _ _ _ _ _ _ _
   | exact commit_Learn.mono _ _ _ _ _ _ _ _ _ _ _ _ _ _
   | exact standbylaw32_awake.mono _
   | exact standbylaw32_step.mono _ _ _ _ _ _ _ _ _ _ _ _ _ _ _
   | exact LeO.none _
   | refine LeO.ite ?_ ?_
   | refine LeO.bind ?_ (fun _ => ?_)
  ·intro y0 y1 y2 y3 y4 y5 y6 y7 y8 y9 y10 y11 y12 y13 y14
   unfold standbylaw32_CommitRefuses.l1
   repeat' first
   | (with_reducible exact ih0 _ _ _ _ _ _ _ _ _ _ _ _ _ _)
   | (with_reducible exact ih1 _ _ _ _ _ _ _ _ _ _ _ _ _ _ _)
   | (with_reducible exact ih2 _ _ _ _ _ _ _ _ _ _ _ _ _ _ _ _ _ _ _ _ _ _)
   | (with_reducible exact ih3 _ _ _ _ _ _ _ _ _ _ _ _ _ _ _ _ _ _ _ _ _ _ _ _ _ _ _)
   | (with_reducible exact commit_Answer.mono _ _ _ _ _ _ _ _ _ _ _ _ _)
   | (with_reducible exact commit_Learn.mono _ _ _ _ _ _ _ _ _ _ _ _ _ _)
   | (with_reducible exact standbylaw32_awake.mono _)
   | (with_reducible exact standbylaw32_step.mono _ _ _ _ _ _ _ _ _ _ _ _ _ _ _)
   | (with_reducible exact LeO.refl _)
   | (with_reducible exact LeO.none _)
   | (with_reducible refine LeO.ite ?_ ?_)
   | (with_reducible refine LeO.bind ?_ (fun _ => ?_))
   | exact ih0 _ _ _ _ _ _ _ _ _ _ _ _ _ _
   | exact ih1 _ _ _ _ _ _ _ _ _ _ _ _ _ _ _
   | exact ih2 _ _ _ _ _ _ _ _ _ _ _ _ _ _ _ _ _ _ _ _ _ _
   | exact ih3 _ _ _ _ _ _ _ _ _ _ _ _ _ _ _ _ _ _ _ _ _ _ _ _ _ _ _
   | exact commit_Answer.mono _ _ _ _ _ _ _ _ _ _ _ _ _
   | exact commit_Learn.mono _ _ _ _ _ _ _ _ _ _ _ _ _ _
   | exact standbylaw32_awake.mono _
   | exact standbylaw32_step.mono _ _ _ _ _ _ _ _ _ _ _ _ _ _ _
   | exact LeO.none _
   | refine LeO.ite ?_ ?_
   | refine LeO.bind ?_ (fun _ => ?_)
  ·intro y0 y1 y2 y3 y4 y5 y6 y7 y8 y9 y10 y11 y12 y13 y14 y15 y16 y17 y18 y19 y20 y21
   unfold standbylaw32_CommitRefuses.j2
   repeat' first
   | (with_reducible exact ih0 _ _ _ _ _ _ _ _ _ _ _ _ _ _)
   | (with_reducible exact ih1 _ _ _ _ _ _ _ _ _ _ _ _ _ _ _)
   | (with_reducible exact ih2 _ _ _ _ _ _ _ _ _ _ _ _ _ _ _ _ _ _ _ _ _ _)
   | (with_reducible exact ih3 _ _ _ _ _ _ _ _ _ _ _ _ _ _ _ _ _ _ _ _ _ _ _ _ _ _ _)
   | (with_reducible exact commit_Answer.mono _ _ _ _ _ _ _ _ _ _ _ _ _)
   | (with_reducible exact commit_Learn.mono _ _ _ _ _ _ _ _ _ _ _ _ _ _)
   | (with_reducible exact standbylaw32_awake.mono _)
   | (with_reducible exact standbylaw32_step.mono _ _ _ _ _ _ _ _ _ _ _ _ _ _ _)
   | (with_reducible exact LeO.refl _)
   | (with_reducible exact LeO.none _)
   | (with_reducible refine LeO.ite ?_ ?_)
   | (with_reducible refine LeO.bind ?_ (fun _ => ?_))
   | exact ih0 _ _ _ _ _ _ _ _ _ _ _ _ _ _
   | exact ih1 _ _ _ _ _ _ _ _ _ _ _ _ _ _ _
   | exact ih2 _ _ _ _ _ _ _ _ _ _ _ _ _ _ _ _ _ _ _ _ _ _
   | exact ih3 _ _ _ _ _ _ _ _ _ _ _ _ _ _ _ _ _ _ _ _ _ _ _ _ _ _ _
   | exact commit_Answer.mono _ _ _ _ _ _ _ _ _ _ _ _ _
   | exact commit_Learn.mono _ _ _ _ _ _ _ _ _ _ _ _ _ _
   | exact standbylaw32_awake.mono _
   | exact standbylaw32_step.mono _ _ _ _ _ _ _ _ _ _ _ _ _ _ _
   | exact LeO.none _
   | refine LeO.ite ?_ ?_
   | refine LeO.bind ?_ (fun _ => ?_)
  ·intro y0 y1 y2 y3 y4 y5 y6 y7 y8 y9 y10 y11 y12 y13 y14 y15 y16 y17 y18 y19 y20 y21 y22 y23 y24 y25 y26
   unfold standbylaw32_CommitRefuses.j3
   repeat' first
   | (with_reducible exact ih0 _ _ _ _ _ _ _ _ _ _ _ _ _ _)
   | (with_reducible exact ih1 _ _ _ _ _ _ _ _ _ _ _ _ _ _ _)
   | (with_reducible exact ih2 _ _ _ _ _ _ _ _ _ _ _ _ _ _ _ _ _ _ _ _ _ _)
   | (with_reducible exact ih3 _ _ _ _ _ _ _ _ _ _ _ _ _ _ _ _ _ _ _ _ _ _ _ _ _ _ _)
   | (with_reducible exact commit_Answer.mono _ _ _ _ _ _ _ _ _ _ _ _ _)
   | (with_reducible exact commit_Learn.mono _ _ _ _ _ _ _ _ _ _ _ _ _ _)
   | (with_reducible exact standbylaw32_awake.mono _)
   | (with_reducible exact standbylaw32_step.mono _ _ _ _ _ _ _ _ _ _ _ _ _ _ _)
   | (with_reducible exact LeO.refl _)
   | (with_reducible exact LeO.none _)
   | (with_reducible refine LeO.ite ?_ ?_)
   | (with_reducible refine LeO.bind ?_ (fun _ => ?_))
   | exact ih0 _ _ _ _ _ _ _ _ _ _ _ _ _ _
   | exact ih1 _ _ _ _ _ _ _ _ _ _ _ _ _ _ _
   | exact ih2 _ _ _ _ _ _ _ _ _ _ _ _ _ _ _ _ _ _ _ _ _ _
   | exact ih3 _ _ _ _ _ _ _ _ _ _ _ _ _ _ _ _ _ _ _ _ _ _ _ _ _ _ _
   | exact commit_Answer.mono _ _ _ _ _ _ _ _ _ _ _ _ _
   | exact commit_Learn.mono _ _ _ _ _ _ _ _ _ _ _ _ _ _
   | exact standbylaw32_awake.mono _
   | exact standbylaw32_step.mono _ _ _ _ _ _ _ _ _ _ _ _ _ _ _
   | exact LeO.none _
   | refine LeO.ite ?_ ?_
   | refine LeO.bind ?_ (fun _ => ?_)
theorem standbylaw32_CommitRefuses.mono : ∀ a0 k, LeO (standbylaw32_CommitRefuses.f k a0) (standbylaw32_CommitRefuses.f (k + 1) a0) := by
 intro a0 k
 obtain ⟨ih0, ih1, ih2, ih3⟩ := standbylaw32_CommitRefuses.mono_l k
 unfold standbylaw32_CommitRefuses.f
 repeat' first
   | (with_reducible exact ih0 _ _ _ _ _ _ _ _ _ _ _ _ _ _)
   | (with_reducible exact ih1 _ _ _ _ _ _ _ _ _ _ _ _ _ _ _)
   | (with_reducible exact ih2 _ _ _ _ _ _ _ _ _ _ _ _ _ _ _ _ _ _ _ _ _ _)
   | (with_reducible exact ih3 _ _ _ _ _ _ _ _ _ _ _ _ _ _ _ _ _ _ _ _ _ _ _ _ _ _ _)
   | (with_reducible exact commit_Answer.mono _ _ _ _ _ _ _ _ _ _ _ _ _)
   | (with_reducible exact commit_Learn.mono _ _ _ _ _ _ _ _ _ _ _ _ _ _)
   | (with_reducible exact standbylaw32_awake.mono _)
   | (with_reducible exact standbylaw32_step.mono _ _ _ _ _ _ _ _ _ _ _ _ _ _ _)
   | (with_reducible exact LeO.refl _)
   | (with_reducible exact LeO.none _)
   | (with_reducible refine LeO.ite ?_ ?_)
   | (with_reducible refine LeO.bind ?_ (fun _ => ?_))
   | exact ih0 _ _ _ _ _ _ _ _ _ _ _ _ _ _
   | exact ih1 _ _ _ _ _ _ _ _ _ _ _ _ _ _ _
   | exact ih2 _ _ _ _ _ _ _ _ _ _ _ _ _ _ _ _ _ _ _ _ _ _
   | exact ih3 _ _ _ _ _ _ _ _ _ _ _ _ _ _ _ _ _ _ _ _ _ _ _ _ _ _ _
   | exact commit_Answer.mono _ _ _ _ _ _ _ _ _ _ _ _ _
   | exact commit_Learn.mono _ _ _ _ _ _ _ _ _ _ _ _ _ _
   | exact standbylaw32_awake.mono _
   | exact standbylaw32_step.mono _ _ _ _ _ _ _ _ _ _ _ _ _ _ _
   | exact LeO.none _
   | refine LeO.ite ?_ ?_
   | refine LeO.bind ?_ (fun _ => ?_)
def standbylaw32_CommitRefuses.T14 : Bool × List (List Nat × List Nat) := (true, [([], []), ([], []), ([1], [1]), ([0, 2], [0, 2]), ([3], [3]), ([4], [4]), ([5, 4], [4, 5]), ([6, 4], [4, 6]), ([4, 7], [4, 7]), ([8, 4], [8]), ([9], [9]), ([10, 9], [9, 10]), ([11, 9], [9, 11]), ([12, 9], [9, 12]), ([13, 9], [9, 13]), ([9, 14], [9, 14]), ([15, 9], [15]), ([16], [16]), ([17, 16], [16, 17]), ([18, 16], [16, 18]), ([19, 16], [16, 19]), ([16], [16]), ([21, 16], [16, 21]), ([20, 22, 16], [16, 20, 22]), ([16, 23], [16, 23])])
def standbylaw32_CommitRefuses.B14 : List Nat := [0, 0, 2, 7, 15, 31, 63, 127, 255, 511, 1023, 2047, 4095, 8191, 16383, 32767, 65535, 131071, 262143, 524287, 1048575, 131071, 2228223, 8388607, 16777215]
theorem standbylaw32_CommitRefuses.tab14 : rtab .any (opsOf Try.f11 14) = standbylaw32_CommitRefuses.T14 := by kernel_rfl
theorem standbylaw32_CommitRefuses.bits14 : waitsOk standbylaw32_CommitRefuses.T14.2 standbylaw32_CommitRefuses.B14 = true := by kernel_rfl
def standbylaw32_CommitRefuses.T18 : Bool × List (List Nat × List Nat) := (true, [([], []), ([], []), ([1], [1]), ([2], [2]), ([0, 3], [0, 3]), ([4], [4]), ([5], [5]), ([5], [5]), ([], []), ([8, 6, 4, 0, 1, 2, 3, 4, 5, 6, 8], [6, 8]), ([7, 9, 0, 1, 2, 3, 4, 5, 6, 7, 8, 9], [7])])
def standbylaw32_CommitRefuses.B18 : List Nat := [0, 0, 2, 6, 15, 31, 63, 63, 0, 383, 1023]
theorem standbylaw32_CommitRefuses.tab18 : rtab .any (opsOf Try.f11 18) = standbylaw32_CommitRefuses.T18 := by kernel_rfl
theorem standbylaw32_CommitRefuses.bits18 : waitsOk standbylaw32_CommitRefuses.T18.2 standbylaw32_CommitRefuses.B18 = true := by kernel_rfl
set_option maxHeartbeats 40000000 in
set_option maxRecDepth 100000 in
theorem standbylaw32_CommitRefuses.calls (k : Nat) (A0 : Option Addr) (c0 : Nat) (l0 : List (S71)) (r : Bool) (w : World) (hr0 : Kd.C k71 w A0 l0.length l0) (hc0 : l0.length ≤ c0) (h : standbylaw32_CommitRefuses.f k l0 = some r) :
  Calls Try.prog 11 #[.slice A0 l0.length c0] w fun e w' => e = .returned (.bool r) ∧ Below w.heap.size w w' := by
 have hu67 := Try.underlying67
 have hu71 := Try.underlying71
 have hu53 := Try.underlying53
 have hu26 := Try.underlying26
 have hu24 := Try.underlying24
 have HR0 := Aside0.mk hr0
 have HC0 := Aside0.mk hc0
 clear hr0 hc0
 have HB := Aside0.mk (Below.refl w.heap.size w)
 have H : (if (l0.length : Int) > 60 then ((standbylaw32_awake.f k).bind fun e6 => (some e6)) else ((standbylaw32_begin.f).bind fun bB => (standbylaw32_CommitRefuses.l0 k l0 0 bB.1 bB.2.1 bB.2.2.1 bB.2.2.2.1 bB.2.2.2.2.1 bB.2.2.2.2.2.1 bB.2.2.2.2.2.2.1 bB.2.2.2.2.2.2.2.1 bB.2.2.2.2.2.2.2.2.1 bB.2.2.2.2.2.2.2.2.2.1 bB.2.2.2.2.2.2.2.2.2.2.1 bB.2.2.2.2.2.2.2.2.2.2.2))) = some r := h
 clear h
 by_cases c2 : (l0.length : Int) > 60
 ·rw [if_pos c2] at H
  have c2b0 : decide (60 < (l0.length : Int)) = true := decide_eq_true c2
  have c2b1 : decide (60 < l0.length) = true := decide_eq_true (by omega)
  clear c2
  replace H := Option.bind_eq_some_iff.mp H
  obtain ⟨e6, A30, H⟩ := H
  replace H : (some e6) = some r := H
  have A3 := Aside0.mk A30
  clear A30
  obtain rfl := Option.some.inj H
  go_enter Try.func11, Try.ntmps11
  go_wp2_with (first | ((with_reducible refine gate_callee (f := 12) rfl ?_); refine goesL_ (some 15) rfl rfl Try.func12 (by kernel_rfl) rfl #[] rfl (by (try simp only [List.map_toArray, List.map_cons, List.map_nil]); first | done | rfl | (simp only [List.length_drop, List.length_take]; rfl)) ?_; (with_reducible refine (standbylaw32_awake.calls k  e6 _ A3.out).mono ?_); rintro e w4 ⟨rfl, hb⟩; refine ⟨_, rfl, ?_⟩; replace HB := tB HB hb; (try clear hb); (try clear hb2); (try clear hk); (try clear hi)))
  go_ret
  exact ⟨by first | rfl | (simp [errW_none, errW_some] <;> rfl) | (simp [*, errW_none, errW_some] <;> rfl), (kB HB.out)⟩
 ·rw [if_neg c2] at H
  have c2b0 : decide (60 < (l0.length : Int)) = false := decide_eq_false c2
  have c2b1 : decide (60 < l0.length) = false := decide_eq_false (by omega)
  clear c2
  replace H := Option.bind_eq_some_iff.mp H
  obtain ⟨⟨fK, fL, e7, fM, fN, fO, fP, fQ, fR, e8, e9, fS⟩, A50, H⟩ := H
  (try dsimp only at H)
  have A5 := Aside0.mk A50
  clear A50
  have H' := Aside0.mk H
  clear H
  go_enter Try.func11, Try.ntmps11
  go_wp2_with (first | ((with_reducible refine gate_callee (f := 37) rfl ?_); refine goesL_ (some 16) rfl rfl Try.func37 (by kernel_rfl) rfl #[] rfl (by (try simp only [List.map_toArray, List.map_cons, List.map_nil]); first | done | rfl | (simp only [List.length_drop, List.length_take]; rfl)) ?_; (with_reducible refine (standbylaw32_begin.calls  fK fL e7 fM fN fO fP fQ fR e8 e9 fS _ A5.out).mono ?_); rintro e w6 ⟨v881, v890, v893, rfl, ho0, ho1, ho2, hb⟩; refine ⟨_, rfl, ?_⟩; have fH := Aside0.mk (Kd.R_lower ho0 (kZ HB.out)); have fI := Aside0.mk (Kd.R_lower ho1 (kZ HB.out)); have eE := Aside0.mk (Kd.R_lower ho2 (kZ HB.out)); replace HB := tB HB hb; (try clear hb); (try clear hb2); (try clear hk); (try clear hi); (try clear ho0); (try clear ho1); (try clear ho2)) | ((with_reducible refine gate_dst (N := 3) rfl ?_); (try (refine gate_guard (by rfl) ?_; dsimp only)); refine box_event ?hg (N := 3) ?hd (cs := #[.int .i64 0, .int .i64 0, .slice none 0 0, .int .i64 0, .int .i64 0, .int .i64 0, .int .i64 0, .int .i64 0, .int .i64 0, .slice none 0 0, .slice none 0 0, .bool false]) (t := 67) ?hr ?_; (case hd => rfl); (case hg => rfl); (case hr => first | (go_simp; done) | (go_simp; rfl)); intro aI hg w7 hbox hb; replace fH := tR fH hb; replace fI := tR fI hb; replace eE := tR eE hb; have aC := Aside0.mk (hbox); have GW896 := gZ HB hg; have mO := gZ HB hg; replace HB := tB HB hb; clear hb hbox hg; obtain ⟨eF, eG, eH, eI, eJ, eK, eL, eM, eN, eO, d0, d1⟩ := cz12 aC.out; obtain ⟨eP, eQ, eR, eS, eT, eU, eV, eW, eX, eY, d2, d3⟩ := fz12 aC.out; obtain ⟨Ao9, co9, eo9⟩ := Kd.R_slice fH.out; subst eo9; obtain ⟨jT, jU, m7⟩ := Kd.R_slice fI.out; subst m7; obtain ⟨jV, jW, m8⟩ := Kd.R_slice eE.out; subst m8))
  go_loopg [4] k (fun kq v4 w' => ∃ (bE : Int) (b6 : Int) (b7 : Int) (b8 : List Int) (b9 : Int) (cA : Int) (cB : Int) (cC : Int) (cD : Int) (cE : Int) (bJ : List Int) (bK : List (S53)) (b4 : Bool) (fA : Value) (d4 : Value) (d5 : Value), v4 = .int .i64 bE ∧ Aside0 (standbylaw32_CommitRefuses.l0 kq l0 bE b6 b7 b8 b9 cA cB cC cD cE bJ bK b4 = some r) ∧ Aside0 (kq ≤ k) ∧ Aside0 (Kd.V (Kd.int .i64) 3 w' w.heap.size (fun k_ => some k_ ≠ (d4 : Value).ownBlock ∧ some k_ ≠ (d5 : Value).ownBlock ∧ k_ ≠ aI) fA b8) ∧ Aside0 (Kd.R (Kd.int .i64) 3 w' w.heap.size (fun _ => True) d4 bJ) ∧ Aside0 (Kd.R k53 53 w' w.heap.size (fun _ => True) d5 bK) ∧ Aside0 (w'.heap[aI]? = some (.cells #[.int .i64 b6, .int .i64 b7, fA, .int .i64 b9, .int .i64 cA, .int .i64 cB, .int .i64 cC, .int .i64 cD, .int .i64 cE, d4, d5, .bool b4] 67 (0, 0))) ∧ Aside0 (Below w.heap.size w w'))
  case atStart => exact ⟨(0), (fK), (fL), (e7), (fM), (fN), (fO), (fP), (fQ), (fR), (e8), (e9), (fS), (.slice Ao9 e7.length co9), (.slice jT e8.length jU), (.slice jV e9.length jW), (by first | rfl | (simp; done) | (simp [*]; done)), H', ⟨Nat.le_refl _⟩, ⟨Kd.R_V (mR (Kd.R_mono (rg12_0 aI (Kd.R_types (Kd.R_types (Kd.R_apart' fH.out (Kd.R_typed eE.out) (by decide)) aC.out (by decide)) aC.out (by decide)) (fun _ hk => hk.2) (.int .i64 fK) (.int .i64 fL) (.slice Ao9 e7.length co9) (.int .i64 fM) (.int .i64 fN) (.int .i64 fO) (.int .i64 fP) (.int .i64 fQ) (.int .i64 fR) (.slice jT e8.length jU) (.slice jV e9.length jW) (.bool fS)) (fun _ hk => ⟨hk.1.1.1, ⟨hk.1.1.2, hk.1.2⟩⟩)))⟩, ⟨by refine mR ?_; exact Kd.R_mono (rg12_0 aI (Kd.R_types fI.out aC.out (by decide)) (fun _ hk => hk.2) (.int .i64 fK) (.int .i64 fL) (.slice Ao9 e7.length co9) (.int .i64 fM) (.int .i64 fN) (.int .i64 fO) (.int .i64 fP) (.int .i64 fQ) (.int .i64 fR) (.slice jT e8.length jU) (.slice jV e9.length jW) (.bool fS)) (fun _ hk => trivial)⟩, ⟨by refine mR ?_; exact Kd.R_mono (rg12_0 aI (Kd.R_types eE.out aC.out (by decide)) (fun _ hk => hk.2) (.int .i64 fK) (.int .i64 fL) (.slice Ao9 e7.length co9) (.int .i64 fM) (.int .i64 fN) (.int .i64 fO) (.int .i64 fP) (.int .i64 fQ) (.int .i64 fR) (.slice jT e8.length jU) (.slice jV e9.length jW) (.bool fS)) (fun _ hk => trivial)⟩, ⟨by exact (mK (pt12_0_12 aC.out))⟩, ⟨kB HB.out⟩⟩
  case round =>
   clear H'
   try clear c1
   try clear c2
   try clear c2b0
   try clear c2b1
   try clear p2
   try clear c3
   try clear c11
   try clear eF eG d0 d1 eH eI eJ eK eL eM eN eO
   try clear eP eQ d2 d3 eR eS eT eU eV eW eX eY
   obtain ⟨bE, b6, b7, b8, b9, cA, cB, cC, cD, cE, bJ, bK, b4, fA, d4, d5, rfl, HA, HK1, aE, aF, aD, aC, HB⟩ := hrel
   cases gk with
   | zero => exact absurd HA.out (by simp [standbylaw32_CommitRefuses.l0])
   | succ k1 =>
    have H := HA.out
    clear HA
    simp only [standbylaw32_CommitRefuses.l0] at H
    by_cases c12 : bE < (l0.length : Int)
    ·rw [if_pos c12] at H
     have jX : decide (bE < (l0.length : Int)) = true := decide_eq_true c12
     clear c12
     by_cases c13 : 0 ≤ bE
     ·rw [if_pos c13] at H
      have kH : decide (0 ≤ bE) = true := decide_eq_true c13
      clear c13
      replace H := Option.bind_eq_some_iff.mp H
      obtain ⟨⟨a8, aW, aS, aX, aU, bF, bG, bH, bI, aV, aA, b5⟩, A140, H⟩ := H
      (try dsimp only at H)
      have A14 := Aside0.mk A140
      clear A140
      have H' := Aside0.mk H
      clear H
      try go_wp2
      have n0_ := Aside0.mk (Kd.V_drew aE.out)
      have n1_ := Aside0.mk (Kd.R_drew aF.out)
      have n2_ := Aside0.mk (Kd.R_drew aD.out)
      have n3_ := Aside0.mk (blk_drew aC.out)
      have n4_ := Aside0.mk (below_drew1 HB.out)
      clear aE
      clear aF
      clear aD
      clear aC
      clear HB
      have aE := n0_
      have aF := n1_
      have aD := n2_
      have aC := n3_
      have HB := n4_
      clear n0_ n1_ n2_ n3_ n4_
      have p898 : 0 ≤ (bE : Int) := of_decide_eq_true (by first | (with_reducible assumption) | assumption)
      have q898 : bE < (l0.length : Int) := of_decide_eq_true (by first | (with_reducible assumption) | assumption)
      obtain ⟨jY, e898, cK, cL⟩ := at_T71 HR0.out bE p898 q898
      have hw898_1 := cL
      have hw898_0 := cK
      cases e898
      replace cK := (HB.out.cell (World.block_lt_of_cell? w _ cK)).trans cK
      replace cL := (HB.out.cell (World.block_lt_of_cell? w _ cL)).trans cL
      replace p898 := eq_true p898
      replace q898 := eq_true q898
      obtain ⟨j6, j7, mC⟩ := Kd.V_slice aE.out
      (first | subst mC | (injection mC with f1_ f2_ f3_; have f4_ := f1_.symm; have f5_ := f3_.symm; clear f1_ f2_ f3_; subst f4_; subst f5_))
      obtain ⟨fB, fC, mD⟩ := Kd.R_slice aF.out
      (first | subst mD | (injection mD with f1_ f2_ f3_; have f4_ := f1_.symm; have f5_ := f3_.symm; clear f1_ f2_ f3_; subst f4_; subst f5_))
      obtain ⟨fD, fE, mE⟩ := Kd.R_slice aD.out
      (first | subst mE | (injection mE with f1_ f2_ f3_; have f4_ := f1_.symm; have f5_ := f3_.symm; clear f1_ f2_ f3_; subst f4_; subst f5_))
      refine start_ (n := 7) (S := fun w' => w'.cell? ⟨aI, 0, none⟩ = some (.int .i64 b6) ∧ w'.cell? ⟨aI, 1, none⟩ = some (.int .i64 b7) ∧ w'.cell? ⟨aI, 2, none⟩ = some (.slice j6 b8.length j7) ∧ w'.cell? ⟨aI, 3, none⟩ = some (.int .i64 b9) ∧ w'.cell? ⟨aI, 4, none⟩ = some (.int .i64 cA) ∧ w'.cell? ⟨aI, 5, none⟩ = some (.int .i64 cB) ∧ w'.cell? ⟨aI, 6, none⟩ = some (.int .i64 cC) ∧ w'.cell? ⟨aI, 7, none⟩ = some (.int .i64 cD) ∧ w'.cell? ⟨aI, 8, none⟩ = some (.int .i64 cE) ∧ w'.cell? ⟨aI, 9, none⟩ = some (.slice fB bJ.length fC) ∧ w'.cell? ⟨aI, 10, none⟩ = some (.slice fD bK.length fE) ∧ w'.cell? ⟨aI, 11, none⟩ = some (.bool b4) ∧ w'.cell? (jY.add ((bE).toNat * 2)) = some (.int .u8 ((rd_T71 l0 bE).f0)) ∧ w'.cell? ⟨(jY.add ((bE).toNat * 2)).block, (jY.add ((bE).toNat * 2)).off + 1, none⟩ = some (.int .u8 ((rd_T71 l0 bE).f1))) (ds := [6]) #[false, false, false, false, false, false, false] (by kernel_rfl) rfl rfl (ct12 aC.out ⟨((HB.out.cell (World.block_lt_of_cell? w _ hw898_0)).trans hw898_0), ((HB.out.cell (World.block_lt_of_cell? w _ hw898_1)).trans hw898_1)⟩) (fun hHeld => ?_)
      generalize wr.drew = w15 at aE aF aD aC HB cK cL hHeld ⊢
      refine pure_ (i := 1) (N := some 24) (v := ?_) (a' := ?_) (bs 7 2) rfl rfl (by kernel_rfl) (fun _ _ _ h => h) (Or.inl ⟨by rfl, ?_⟩) ?_ ?_
      rotate_left
      ·intro w'
       go_simp
       with_reducible rfl
      rotate_left
      ·simp only [Act.put, sA, sB, sC, i64_w, i32_w]
       rfl
      refine pure_ (i := 2) (N := some 25) (v := ?_) (a' := ?_) (bs 7 6) rfl rfl (by kernel_rfl) (fun _ _ _ h => h) (Or.inl ⟨by rfl, ?_⟩) ?_ ?_
      rotate_left
      ·intro w'
       go_simp
       with_reducible rfl
      rotate_left
      ·simp only [Act.put, sA, sB, sC, i64_w, i32_w]
       rfl
      refine pure_ (i := 3) (N := some 26) (v := ?_) (a' := ?_) (bs 7 14) rfl rfl (by kernel_rfl) (fun _ _ _ h => h) (Or.inl ⟨by rfl, ?_⟩) ?_ ?_
      rotate_left
      ·intro w'
       go_simp
       with_reducible rfl
      rotate_left
      ·simp only [Act.put, sA, sB, sC, i64_w, i32_w]
       rfl
      refine take_ (i := 0) (N := some 23) (v := ?_) (a' := ?_) (bs 7 15) rfl rfl (by kernel_rfl) (fun _ _ _ h => h) (Or.inl ⟨by rfl, ?_⟩) hHeld ?_ ?_
      rotate_left
      ·rintro w' ⟨s0, s1, s2, s3, s4, s5, s6, s7, s8, s9, s10, s11, s12, s13⟩
       go_simp
       with_reducible rfl
      rotate_left
      ·simp only [Act.put, sA, sB, sC, i64_w, i32_w]
       rfl
      refine take_ (i := 4) (N := some 27) (v := ?_) (a' := ?_) (bs 7 31) rfl rfl (by kernel_rfl) (fun _ _ _ h => h) (Or.inl ⟨by rfl, ?_⟩) hHeld ?_ ?_
      rotate_left
      ·rintro w' ⟨s0, s1, s2, s3, s4, s5, s6, s7, s8, s9, s10, s11, s12, s13⟩
       go_simp
       with_reducible rfl
      rotate_left
      ·simp only [Act.put, sA, sB, sC, i64_w, i32_w]
       rfl
      refine one_ (i := 5) (N := some 28) (bs 7 63) rfl rfl (by kernel_rfl) (by decide) (fun K hK => ?_)
      refine goes_ Try.func38 (by kernel_rfl) rfl #[.agg #[.int .i64 b6, .int .i64 b7, .slice j6 b8.length j7, .int .i64 b9, .int .i64 cA, .int .i64 cB, .int .i64 cC, .int .i64 cD, .int .i64 cE, .slice fB bJ.length fC, .slice fD bK.length fE, .bool b4], .agg #[.int .u8 ((rd_T71 l0 bE).f0), .int .u8 ((rd_T71 l0 bE).f1)]] (by rfl) rfl rfl (by (try simp only [List.map_toArray, List.map_cons, List.map_nil]); first | done | rfl | (simp only [List.length_drop, List.length_take]; rfl)) ?_
      with_reducible refine (standbylaw32_step.calls k1 b6 b7 (fun k_ => (some k_ ≠ (.slice fB bJ.length fC : Value).ownBlock ∧ (some k_ ≠ (.slice fD bK.length fE : Value).ownBlock ∧ k_ ≠ aI))) _ _ b8 b9 cA cB cC cD cE (fun k_ => some k_ = (.slice fB bJ.length fC : Value).ownBlock) (.slice fB bJ.length fC) bJ (fun k_ => some k_ = (.slice fD bK.length fE : Value).ownBlock) (.slice fD bK.length fE) bK b4 ((rd_T71 l0 bE).f0) ((rd_T71 l0 bE).f1) a8 aW aS aX aU bF bG bH bI aV aA b5 w _ ?side1 ?side2 ?side3 ?side4 A14.out).mono ?_
      (case side1 => repeat (first | (with_reducible first | exact HB.out | apply below_alloc | apply pw_below_drewN | apply below_drew1 | refine below_set ?_ mO.out) | exact HB.out))
      (case side2 => exact Kd.V_mono (aE.out) (fun k_ hk_ => ⟨hk_, hk_.1, hk_.2.1⟩))
      (case side3 => exact Kd.R_tight rfl aF.out)
      (case side4 => exact Kd.R_tight rfl aD.out)
      rintro e w19 ⟨v902, mF, mG, rfl, ho0, ho1, ho2, hb, hkp⟩
      refine ⟨_, rfl, ?_⟩
      have n0_ := Aside0.mk (Kd.V_mono (ok' := fun k_ => k_ ≠ aI ∧ some k_ ≠ (mF : Value).ownBlock ∧ some k_ ≠ (mG : Value).ownBlock) (Kd.V_keptB (aE.out) hkp (fun k_ hk_ hs_ => Or.elim hs_ (fun e_ => (hk_.1) e_) (fun e_ => (hk_.2.1) e_))) (fun k_ hk_ => ⟨hk_.1.2.2, fun e_ => Or.elim (ho1.1 k_ e_.symm) (fun hs_ => hk_.2.1 hs_) (fun hn_ => Nat.not_le.2 hk_.2.2 hn_), fun e_ => Or.elim (ho2.1 k_ e_.symm) (fun hs_ => hk_.2.1 hs_) (fun hn_ => Nat.not_le.2 hk_.2.2 hn_)⟩))
      have n1_ := Aside0.mk (blk_kept (mK aC.out) hkp (fun hs_ => Or.elim hs_ (fun e_ => (fun e_ => (Kd.R_ne aF.out aC.out (by decide)) e_) e_) (fun e_ => (fun e_ => (Kd.R_ne aD.out aC.out (by decide)) e_) e_)))
      have n2_ := Aside0.mk (Kd.V_mono (ok' := fun k_ => some k_ ≠ (mF : Value).ownBlock ∧ some k_ ≠ (mG : Value).ownBlock ∧ k_ ≠ aI) ho0 (fun k_ hk_ => ⟨hk_.2.1, hk_.2.2, Or.elim hk_.1 (fun hs_ => Or.elim hs_ (fun hs_ => fun e_ => (Kd.R_ne aF.out aC.out (by decide)) (by rw [← e_]; exact hs_)) (fun hs_ => Or.elim hs_ (fun hs_ => fun e_ => (Kd.R_ne aD.out aC.out (by decide)) (by rw [← e_]; exact hs_)) (fun hs_ => hs_.2.2))) (fun hn_ => (Kd.freshB (mK aC.out) k_ hn_))⟩))
      have n3_ := Aside0.mk (Kd.R_mono (ok' := fun k_ => True) ho1 (fun k_ hk_ => trivial))
      have n4_ := Aside0.mk (Kd.R_mono (ok' := fun k_ => True) ho2 (fun k_ hk_ => trivial))
      have n5_ := Aside0.mk (hb)
      clear aE
      clear aC
      clear HB
      clear aF
      clear aD
      have aE := n0_
      have aC := n1_
      have kI := n2_
      have kJ := n3_
      have kK := n4_
      have HB := n5_
      clear n0_ n1_ n2_ n3_ n4_ n5_
      (try clear hb)
      (try clear hkp)
      (try clear ho0)
      (try clear ho1)
      (try clear ho2)
      obtain ⟨aY, aZ, mH⟩ := Kd.V_slice kI.out
      (first | subst mH | (injection mH with f1_ f2_ f3_; have f4_ := f1_.symm; have f5_ := f3_.symm; clear f1_ f2_ f3_; subst f4_; subst f5_))
      obtain ⟨a9, bA, mI⟩ := Kd.R_slice kJ.out
      (first | subst mI | (injection mI with f1_ f2_ f3_; have f4_ := f1_.symm; have f5_ := f3_.symm; clear f1_ f2_ f3_; subst f4_; subst f5_))
      obtain ⟨d7, a2, mJ⟩ := Kd.R_slice kK.out
      (first | subst mJ | (injection mJ with f1_ f2_ f3_; have f4_ := f1_.symm; have f5_ := f3_.symm; clear f1_ f2_ f3_; subst f4_; subst f5_))
      refine hK.out _ _ (ct12 aC.out ⟨((HB.out.cell (World.block_lt_of_cell? w _ hw898_0)).trans hw898_0), ((HB.out.cell (World.block_lt_of_cell? w _ hw898_1)).trans hw898_1)⟩) (fun hHeld => ?_)
      clear hK K
      refine norm_ (a' := ?_) ?_ ?_
      rotate_left
      ·show Act.put _ (some 28) _ = _
       simp only [Act.put, sA, sB, sC, i64_w, i32_w]
       rfl
      refine last_ (i := 6) (N := none) (bs 7 127) rfl rfl (by kernel_rfl) (by decide) (fun K hK => ?_)
      have hs20 : w19.cell? ⟨aI, 0, none⟩ = some (.int .i64 b6) := (blk_cell aC.out 0).trans rfl
      have hfs20 := blk_frozen aC.out 0
      have hs21 : w19.cell? ⟨aI, 1, none⟩ = some (.int .i64 b7) := (blk_cell aC.out 1).trans rfl
      have hfs21 := blk_frozen aC.out 1
      have hs23 : w19.cell? ⟨aI, 2, none⟩ = some (.slice j6 b8.length j7) := (blk_cell aC.out 2).trans rfl
      have hfs23 := blk_frozen aC.out 2
      have hs24 : w19.cell? ⟨aI, 3, none⟩ = some (.int .i64 b9) := (blk_cell aC.out 3).trans rfl
      have hfs24 := blk_frozen aC.out 3
      have hs25 : w19.cell? ⟨aI, 4, none⟩ = some (.int .i64 cA) := (blk_cell aC.out 4).trans rfl
      have hfs25 := blk_frozen aC.out 4
      have hs26 : w19.cell? ⟨aI, 5, none⟩ = some (.int .i64 cB) := (blk_cell aC.out 5).trans rfl
      have hfs26 := blk_frozen aC.out 5
      have hs27 : w19.cell? ⟨aI, 6, none⟩ = some (.int .i64 cC) := (blk_cell aC.out 6).trans rfl
      have hfs27 := blk_frozen aC.out 6
      have hs28 : w19.cell? ⟨aI, 7, none⟩ = some (.int .i64 cD) := (blk_cell aC.out 7).trans rfl
      have hfs28 := blk_frozen aC.out 7
      have hs29 : w19.cell? ⟨aI, 8, none⟩ = some (.int .i64 cE) := (blk_cell aC.out 8).trans rfl
      have hfs29 := blk_frozen aC.out 8
      have hs31 : w19.cell? ⟨aI, 9, none⟩ = some (.slice fB bJ.length fC) := (blk_cell aC.out 9).trans rfl
      have hfs31 := blk_frozen aC.out 9
      have hs33 : w19.cell? ⟨aI, 10, none⟩ = some (.slice fD bK.length fE) := (blk_cell aC.out 10).trans rfl
      have hfs33 := blk_frozen aC.out 10
      have hs34 : w19.cell? ⟨aI, 11, none⟩ = some (.bool b4) := (blk_cell aC.out 11).trans rfl
      have hfs34 := blk_frozen aC.out 11
      refine skip_ (w1 := ?_) (by rfl) rfl ?_ ?_
      rotate_left
      ·go_simp
       rfl
      refine hK.out _ _ ?_
      clear hK K
      refine done_ (by kernel_rfl) ?_
      try go_wp2
      go_loopg [5] k1 (fun kq v5 w' => ∃ (aB : Int), v5 = .int .i64 aB ∧ Aside0 (standbylaw32_CommitRefuses.l1 kq l0 bE aB a8 aW aS aX aU bF bG bH bI aV aA b5 = some r) ∧ Aside0 (kq ≤ k1) ∧ Aside0 (Kd.V (Kd.int .i64) 3 w' w.heap.size (fun k_ => some k_ ≠ ((.slice a9 aV.length bA) : Value).ownBlock ∧ some k_ ≠ ((.slice d7 aA.length a2) : Value).ownBlock ∧ k_ ≠ aI) (.slice aY aS.length aZ) aS) ∧ Aside0 (Kd.R (Kd.int .i64) 3 w' w.heap.size (fun _ => True) (.slice a9 aV.length bA) aV) ∧ Aside0 (Kd.R k53 53 w' w.heap.size (fun _ => True) (.slice d7 aA.length a2) aA) ∧ Aside0 (w'.heap[aI]? = some (.cells #[.int .i64 a8, .int .i64 aW, (.slice aY aS.length aZ), .int .i64 aX, .int .i64 aU, .int .i64 bF, .int .i64 bG, .int .i64 bH, .int .i64 bI, (.slice a9 aV.length bA), (.slice d7 aA.length a2), .bool b5] 67 (0, 0))) ∧ Aside0 (Below w.heap.size w w'))
      case atStart => exact ⟨(0), (by first | rfl | (simp; done) | (simp [*]; done)), H', ⟨Nat.le_refl _⟩, ⟨by refine mV ?_; exact Kd.V_mono (vg12_0 aI (Kd.V_mono kI.out (fun k_ hk => (⟨hk, hk.2.2⟩ : _ ∧ k_ ≠ aI))) (fun _ hk => hk.2) (.int .i64 a8) (.int .i64 aW) (.slice aY aS.length aZ) (.int .i64 aX) (.int .i64 aU) (.int .i64 bF) (.int .i64 bG) (.int .i64 bH) (.int .i64 bI) (.slice a9 aV.length bA) (.slice d7 aA.length a2) (.bool b5)) (fun _ hk => ⟨hk.1.1, ⟨hk.1.2.1, hk.1.2.2⟩⟩)⟩, ⟨by refine mR ?_; exact Kd.R_mono (rg12_0 aI (Kd.R_types kJ.out aC.out (by decide)) (fun _ hk => hk.2) (.int .i64 a8) (.int .i64 aW) (.slice aY aS.length aZ) (.int .i64 aX) (.int .i64 aU) (.int .i64 bF) (.int .i64 bG) (.int .i64 bH) (.int .i64 bI) (.slice a9 aV.length bA) (.slice d7 aA.length a2) (.bool b5)) (fun _ hk => trivial)⟩, ⟨by refine mR ?_; exact Kd.R_mono (rg12_0 aI (Kd.R_types kK.out aC.out (by decide)) (fun _ hk => hk.2) (.int .i64 a8) (.int .i64 aW) (.slice aY aS.length aZ) (.int .i64 aX) (.int .i64 aU) (.int .i64 bF) (.int .i64 bG) (.int .i64 bH) (.int .i64 bI) (.slice a9 aV.length bA) (.slice d7 aA.length a2) (.bool b5)) (fun _ hk => trivial)⟩, ⟨by exact (mK (pt12_0_12 aC.out))⟩, ⟨kB HB.out⟩⟩
      case round =>
       clear H'
       try clear c1
       try clear c2
       try clear c2b0
       try clear c2b1
       try clear p2
       try clear c3
       try clear p8
       try clear q8
       try clear hx8
       try clear c11
       try clear c12
       try clear jX
       try clear c13
       try clear kH
       try clear eF eG d0 d1 eH eI eJ eK eL eM eN eO
       try clear eP eQ d2 d3 eR eS eT eU eV eW eX eY
       try clear cK
       try clear cL
       try clear p2
       try clear p898
       try clear q898
       obtain ⟨aB, rfl, HA, HK2, aE, aF, aD, aC, HB⟩ := hrel
       cases gk with
       | zero => exact absurd HA.out (by simp [standbylaw32_CommitRefuses.l1])
       | succ k2 =>
        have H := HA.out
        clear HA
        simp only [standbylaw32_CommitRefuses.l1] at H
        by_cases c35 : aB < (aA.length : Int)
        ·rw [if_pos c35] at H
         have kL : decide (aB < (aA.length : Int)) = true := decide_eq_true c35
         clear c35
         by_cases c36 : 0 ≤ aB
         ·rw [if_pos c36] at H
          have mP : decide (0 ≤ aB) = true := decide_eq_true c36
          clear c36
          have HC37 := Aside0.mk H
          clear H
          obtain ⟨kQ, kR, kS, kT, kU, kV, kW, kX, kY, gC, j8, j9⟩ := cz12 aC.out
          obtain ⟨gD, gE, gF, gG, gH, gI, gJ, gK, gL, gM, fT, fU⟩ := fz12 aC.out
          have p917 : 0 ≤ (aB : Int) := of_decide_eq_true (by first | (with_reducible assumption) | assumption)
          have q917 : aB < (aA.length : Int) := of_decide_eq_true (by first | (with_reducible assumption) | assumption)
          obtain ⟨a1, e917, gN, gO, gP, gQ, gR, gS, gT, gU⟩ := at_T53 (Kd.R_reads' aD.out).2.2 aB p917 q917
          cases e917
          replace p917 := eq_true p917
          replace q917 := eq_true q917
          go_upto_region 12 with (first | ((with_reducible refine gate_dst (N := 6) rfl ?_); (try (refine gate_guard (by rfl) ?_; dsimp only)); refine box_event ?hg (N := 6) ?hd (cs := #[.int .i64 0, .int .i64 0, .int .i64 0, .int .i64 0, .int .i64 0, .int .i64 0, .slice none 0 0, .slice none 0 0]) (t := 53) ?hr ?_; (case hd => rfl); (case hg => rfl); (case hr => first | (go_simp; done) | (go_simp; rfl)); intro aO hg w39 hbox hb; replace aE := Aside0.mk (Kd.V_below (Kd.V_elderB (mV aE.out) aO (Nat.le_of_eq hg.symm)) hb); replace aF := tR aF hb; replace aD := Aside0.mk (Kd.R_below (Kd.R_elderB (mR aD.out) aO (Nat.le_of_eq hg.symm)) hb); have aJ := Aside0.mk (hbox); have GW918 := gZ HB hg; have GE918 := gZ HB hg; replace HB := tB HB hb; have aM := nL aC hg; have cM := nG aC hg; replace aC := tK aC hb; clear hb hbox hg; have hnb40 := cM.out; have hnc40 := aM.out; obtain ⟨gV, gW, gX, gY, g0, g1, g2, g3⟩ := cz8 aJ.out; obtain ⟨g4, g5, g6, g7, g8, g9, hA, hB⟩ := fz8 aJ.out))
          (try simp only [Act.put, sA, sB, sC])
          go_cut [56] (fun v56 wc => ∃ (kq : Nat) (eZ : Bool), v56 = .bool eZ ∧ Aside0 (standbylaw32_CommitRefuses.j2 kq l0 bE aB eZ a8 aW aS aX aU bF bG bH bI aV aA b5 ((rd_T53 aA aB).f0) ((rd_T53 aA aB).f1) ((rd_T53 aA aB).f2) ((rd_T53 aA aB).f3) ((rd_T53 aA aB).f4) ((rd_T53 aA aB).f5) = some r) ∧ Aside0 (kq ≤ k2) ∧ Aside0 (Kd.V (Kd.int .i64) 3 wc w.heap.size (fun k_ => some k_ ≠ ((.slice a9 aV.length bA) : Value).ownBlock ∧ some k_ ≠ ((.slice (some a1) aA.length a2) : Value).ownBlock ∧ k_ ≠ aI ∧ k_ ≠ aO) (.slice aY aS.length aZ) aS) ∧ Aside0 (Kd.R (Kd.int .i64) 3 wc w.heap.size (fun _ => True) (.slice a9 aV.length bA) aV) ∧ Aside0 (Kd.R k53 53 wc w.heap.size (fun k_ => k_ ≠ aO) (.slice (some a1) aA.length a2) aA) ∧ Aside0 (wc.heap[aI]? = some (.cells #[.int .i64 a8, .int .i64 aW, (.slice aY aS.length aZ), .int .i64 aX, .int .i64 aU, .int .i64 bF, .int .i64 bG, .int .i64 bH, .int .i64 bI, (.slice a9 aV.length bA), (.slice (some a1) aA.length a2), .bool b5] 67 (0, 0))) ∧ Aside0 (wc.heap[aO]? = some (.cells #[.int .i64 ((rd_T53 aA aB).f0), .int .i64 ((rd_T53 aA aB).f1), .int .i64 ((rd_T53 aA aB).f2), .int .i64 ((rd_T53 aA aB).f3), .int .i64 ((rd_T53 aA aB).f4), .int .i64 ((rd_T53 aA aB).f5), .slice none 0 0, .slice none 0 0] 53 (0, 0))) ∧ Aside0 (Below w.heap.size w wc))
          case first =>
           have H := HC37.out
           clear HC37
           by_cases c42 : ((rd_T53 aA aB).f0) = 8
           ·rw [if_pos c42] at H
            have d6 : (((rd_T53 aA aB).f0) == 8) = true := beq_iff_eq.mpr c42
            have kM : (((rd_T53 aA aB).f0) != 8) = false := bne_eq_false_iff_eq.mpr c42
            clear c42
            (first | rw [d6] | (simp only [i64_w, i32_w]; rw [d6]) | skip)
            have H' := Aside0.mk H
            clear H
            have hnb43 := cM.out
            have hnc43 := aM.out
            obtain ⟨hC, hD, hE, hF, hG, hH, hI, hJ⟩ := cz8 aJ.out
            obtain ⟨hL, hM, hN, hO, hP, hQ, hR, hS⟩ := fz8 aJ.out
            obtain ⟨hT, hU, hV, hW, hX, hY, hZ, h0, h1, h2, fV, fW⟩ := cz12 aC.out
            obtain ⟨h3, h4, h5, h6, h7, h8, h9, iA, iB, iC, fX, fY⟩ := fz12 aC.out
            go_wp2
            go_meet
            case rel => exact ⟨_, (decide (((rd_T53 aA aB).f5) ≥ bF)), (by first | rfl | (simp; done) | (simp [*]; done)), H', ⟨by have := HK1.out; have := HK2.out; first | omega | exact Nat.le_refl _⟩, ⟨by refine mV ?_; exact Kd.V_mono (vg8_0 aO (Kd.V_mono aE.out (fun k_ hk => (⟨hk, hk.2⟩ : _ ∧ k_ ≠ aO))) (fun _ hk => hk.2) (.int .i64 ((rd_T53 aA aB).f0)) (.int .i64 ((rd_T53 aA aB).f1)) (.int .i64 ((rd_T53 aA aB).f2)) (.int .i64 ((rd_T53 aA aB).f3)) (.int .i64 ((rd_T53 aA aB).f4)) (.int .i64 ((rd_T53 aA aB).f5)) (.slice none 0 0) (.slice none 0 0)) (fun _ hk => ⟨hk.1.1.1, ⟨hk.1.1.2.1, ⟨hk.1.1.2.2, hk.1.2⟩⟩⟩)⟩, ⟨by refine mR ?_; exact Kd.R_mono (rg8_0 aO (Kd.R_types aF.out aJ.out (by decide)) (fun _ hk => hk.2) (.int .i64 ((rd_T53 aA aB).f0)) (.int .i64 ((rd_T53 aA aB).f1)) (.int .i64 ((rd_T53 aA aB).f2)) (.int .i64 ((rd_T53 aA aB).f3)) (.int .i64 ((rd_T53 aA aB).f4)) (.int .i64 ((rd_T53 aA aB).f5)) (.slice none 0 0) (.slice none 0 0)) (fun _ hk => trivial)⟩, ⟨by refine mR ?_; exact Kd.R_mono (rg8_0 aO (Kd.R_mono aD.out (fun k_ hk => (⟨hk, hk.2⟩ : _ ∧ k_ ≠ aO))) (fun _ hk => hk.2) (.int .i64 ((rd_T53 aA aB).f0)) (.int .i64 ((rd_T53 aA aB).f1)) (.int .i64 ((rd_T53 aA aB).f2)) (.int .i64 ((rd_T53 aA aB).f3)) (.int .i64 ((rd_T53 aA aB).f4)) (.int .i64 ((rd_T53 aA aB).f5)) (.slice none 0 0) (.slice none 0 0)) (fun _ hk => hk.1.2)⟩, ⟨by exact (mK (fr (fr (fr (fr (fr (fr (fr (fr aC.out aM.out) aM.out) aM.out) aM.out) aM.out) aM.out) aM.out) aM.out))⟩, ⟨by exact (mK (pt8_0_8 aJ.out))⟩, ⟨kB HB.out⟩⟩
           ·rw [if_neg c42] at H
            have d6 : (((rd_T53 aA aB).f0) == 8) = false := beq_eq_false_iff_ne.mpr c42
            have kM : (((rd_T53 aA aB).f0) != 8) = true := bne_iff_ne.mpr c42
            (first | rw [d6] | (simp only [i64_w, i32_w]; rw [d6]) | skip)
            by_cases c46 : ((rd_T53 aA aB).f0) = 10
            ·rw [if_pos c46] at H
             have kN : (((rd_T53 aA aB).f0) == 10) = true := beq_iff_eq.mpr c46
             have kO : (((rd_T53 aA aB).f0) != 10) = false := bne_eq_false_iff_eq.mpr c46
             clear c46
             have H' := Aside0.mk H
             clear H
             have hnb47 := cM.out
             have hnc47 := aM.out
             obtain ⟨iD, iE, iF, iG, iH, iI, iJ, iK⟩ := cz8 aJ.out
             obtain ⟨iL, iM, iN, iO, iP, iQ, iR, iS⟩ := fz8 aJ.out
             obtain ⟨iT, iU, iV, iW, iX, iY, iZ, i0, i1, i2, fZ, f8⟩ := cz12 aC.out
             obtain ⟨i3, i4, i5, i6, i7, i8, i9, jA, jB, jC, f9, gA⟩ := fz12 aC.out
             go_wp2
             go_meet
             case rel => exact ⟨_, (decide (((rd_T53 aA aB).f5) ≥ bF)), (by first | rfl | (simp; done) | (simp [*]; done)), H', ⟨by have := HK1.out; have := HK2.out; first | omega | exact Nat.le_refl _⟩, ⟨by refine mV ?_; exact Kd.V_mono (vg8_0 aO (Kd.V_mono aE.out (fun k_ hk => (⟨hk, hk.2⟩ : _ ∧ k_ ≠ aO))) (fun _ hk => hk.2) (.int .i64 ((rd_T53 aA aB).f0)) (.int .i64 ((rd_T53 aA aB).f1)) (.int .i64 ((rd_T53 aA aB).f2)) (.int .i64 ((rd_T53 aA aB).f3)) (.int .i64 ((rd_T53 aA aB).f4)) (.int .i64 ((rd_T53 aA aB).f5)) (.slice none 0 0) (.slice none 0 0)) (fun _ hk => ⟨hk.1.1.1, ⟨hk.1.1.2.1, ⟨hk.1.1.2.2, hk.1.2⟩⟩⟩)⟩, ⟨by refine mR ?_; exact Kd.R_mono (rg8_0 aO (Kd.R_types aF.out aJ.out (by decide)) (fun _ hk => hk.2) (.int .i64 ((rd_T53 aA aB).f0)) (.int .i64 ((rd_T53 aA aB).f1)) (.int .i64 ((rd_T53 aA aB).f2)) (.int .i64 ((rd_T53 aA aB).f3)) (.int .i64 ((rd_T53 aA aB).f4)) (.int .i64 ((rd_T53 aA aB).f5)) (.slice none 0 0) (.slice none 0 0)) (fun _ hk => trivial)⟩, ⟨by refine mR ?_; exact Kd.R_mono (rg8_0 aO (Kd.R_mono aD.out (fun k_ hk => (⟨hk, hk.2⟩ : _ ∧ k_ ≠ aO))) (fun _ hk => hk.2) (.int .i64 ((rd_T53 aA aB).f0)) (.int .i64 ((rd_T53 aA aB).f1)) (.int .i64 ((rd_T53 aA aB).f2)) (.int .i64 ((rd_T53 aA aB).f3)) (.int .i64 ((rd_T53 aA aB).f4)) (.int .i64 ((rd_T53 aA aB).f5)) (.slice none 0 0) (.slice none 0 0)) (fun _ hk => hk.1.2)⟩, ⟨by exact (mK (fr (fr (fr (fr (fr (fr (fr (fr aC.out aM.out) aM.out) aM.out) aM.out) aM.out) aM.out) aM.out) aM.out))⟩, ⟨by exact (mK (pt8_0_8 aJ.out))⟩, ⟨kB HB.out⟩⟩
            ·rw [if_neg c46] at H
             have kN : (((rd_T53 aA aB).f0) == 10) = false := beq_eq_false_iff_ne.mpr c46
             have kO : (((rd_T53 aA aB).f0) != 10) = true := bne_iff_ne.mpr c46
             have H' := Aside0.mk H
             clear H
             have hnb50 := cM.out
             have hnc50 := aM.out
             obtain ⟨jD, jE, jF, jG, jH, jI, jJ, jK⟩ := cz8 aJ.out
             obtain ⟨jL, jM, jN, jO, jP, jQ, jR, jS⟩ := fz8 aJ.out
             go_wp2
             go_meet
             case rel => exact ⟨_, (true), (by first | rfl | (simp; done) | (simp [*]; done)), H', ⟨by have := HK1.out; have := HK2.out; first | omega | exact Nat.le_refl _⟩, ⟨by refine mV ?_; exact Kd.V_mono (vg8_0 aO (Kd.V_mono aE.out (fun k_ hk => (⟨hk, hk.2⟩ : _ ∧ k_ ≠ aO))) (fun _ hk => hk.2) (.int .i64 ((rd_T53 aA aB).f0)) (.int .i64 ((rd_T53 aA aB).f1)) (.int .i64 ((rd_T53 aA aB).f2)) (.int .i64 ((rd_T53 aA aB).f3)) (.int .i64 ((rd_T53 aA aB).f4)) (.int .i64 ((rd_T53 aA aB).f5)) (.slice none 0 0) (.slice none 0 0)) (fun _ hk => ⟨hk.1.1.1, ⟨hk.1.1.2.1, ⟨hk.1.1.2.2, hk.1.2⟩⟩⟩)⟩, ⟨by refine mR ?_; exact Kd.R_mono (rg8_0 aO (Kd.R_types aF.out aJ.out (by decide)) (fun _ hk => hk.2) (.int .i64 ((rd_T53 aA aB).f0)) (.int .i64 ((rd_T53 aA aB).f1)) (.int .i64 ((rd_T53 aA aB).f2)) (.int .i64 ((rd_T53 aA aB).f3)) (.int .i64 ((rd_T53 aA aB).f4)) (.int .i64 ((rd_T53 aA aB).f5)) (.slice none 0 0) (.slice none 0 0)) (fun _ hk => trivial)⟩, ⟨by refine mR ?_; exact Kd.R_mono (rg8_0 aO (Kd.R_mono aD.out (fun k_ hk => (⟨hk, hk.2⟩ : _ ∧ k_ ≠ aO))) (fun _ hk => hk.2) (.int .i64 ((rd_T53 aA aB).f0)) (.int .i64 ((rd_T53 aA aB).f1)) (.int .i64 ((rd_T53 aA aB).f2)) (.int .i64 ((rd_T53 aA aB).f3)) (.int .i64 ((rd_T53 aA aB).f4)) (.int .i64 ((rd_T53 aA aB).f5)) (.slice none 0 0) (.slice none 0 0)) (fun _ hk => hk.1.2)⟩, ⟨by exact (mK (fr (fr (fr (fr (fr (fr (fr (fr aC.out aM.out) aM.out) aM.out) aM.out) aM.out) aM.out) aM.out) aM.out))⟩, ⟨by exact (mK (pt8_0_8 aJ.out))⟩, ⟨kB HB.out⟩⟩
          case rest =>
           clear HC37
           try clear c1
           try clear c2
           try clear c2b0
           try clear c2b1
           try clear p2
           try clear c3
           try clear c4
           try clear c5
           try clear p8
           try clear q8
           try clear hx8
           try clear p9
           try clear q9
           try clear hx9
           try clear c11
           try clear c12
           try clear jX
           try clear c13
           try clear kH
           try clear c35
           try clear kL
           try clear c36
           try clear mP
           try clear c37
           try clear c38
           try clear c40
           try clear c42
           try clear d6
           try clear kM
           try clear c43
           try clear c46
           try clear kN
           try clear kO
           try clear c47
           try clear c50
           try clear kQ kR j8 j9 kS kT kU kV kW kX kY gC
           try clear gV gW gX gY g0 g1 g2 g3
           try clear hC hD hE hF hG hH hI hJ
           try clear hT hU fV fW hV hW hX hY hZ h0 h1 h2
           try clear iD iE iF iG iH iI iJ iK
           try clear iT iU fZ f8 iV iW iX iY iZ i0 i1 i2
           try clear jD jE jF jG jH jI jJ jK
           try clear eF eG d0 d1 eH eI eJ eK eL eM eN eO
           try clear gD gE fT fU gF gG gH gI gJ gK gL gM
           try clear g4 g5 g6 g7 g8 g9 hA hB
           try clear hL hM hN hO hP hQ hR hS
           try clear h3 h4 fX fY h5 h6 h7 h8 h9 iA iB iC
           try clear iL iM iN iO iP iQ iR iS
           try clear i3 i4 f9 gA i5 i6 i7 i8 i9 jA jB jC
           try clear jL jM jN jO jP jQ jR jS
           try clear eP eQ d2 d3 eR eS eT eU eV eW eX eY
           try clear cK
           try clear cL
           try clear gN
           try clear gO
           try clear gP
           try clear gQ
           try clear gR
           try clear gS
           try clear gT
           try clear gU
           try clear p2
           try clear p8
           try clear p898
           try clear p917
           try clear q8
           try clear q898
           try clear q917
           obtain ⟨kq, eZ, rfl, HA, HJ36, aE, aF, aD, aC, aJ, HB⟩ := hcut
           cases kq with
           | zero => exact absurd HA.out (by simp [standbylaw32_CommitRefuses.j2])
           | succ kj36 =>
            have H := HA.out
            clear HA
            simp only [standbylaw32_CommitRefuses.j2] at H
            by_cases c52 : eZ = true
            ·subst c52
             have H1 : (standbylaw32_CommitRefuses.l1 kj36 l0 bE (wrap64 (aB + 1)) a8 aW aS aX aU bF bG bH bI aV aA b5) = some r := by rw [if_pos rfl] at H; exact H
             clear H
             have H := H1
             clear H1
             have H' := Aside0.mk H
             clear H
             go_wp2
             go_roundg kj36
             case measure => have := HK1.out; have := HK2.out; have := HJ36.out; omega
             case rel => exact ⟨(wrap64 (aB + 1)), (by first | rfl | (simp; done) | (simp [*]; done)), H', ⟨by have := HK1.out; have := HK2.out; have := HJ36.out; omega⟩, ⟨by refine mV ?_; exact Kd.V_mono aE.out (fun _ hk => ⟨hk.1, ⟨hk.2.1, hk.2.2.1⟩⟩)⟩, ⟨by refine mR ?_; exact aF.out⟩, ⟨by refine mR ?_; exact Kd.R_mono aD.out (fun _ hk => trivial)⟩, ⟨by refine mK ?_; exact aC.out⟩, ⟨kB HB.out⟩⟩
            ·replace c52 := Bool.eq_false_iff.mpr c52
             subst c52
             have H1 : ((commit_Answer.f kj36 bF bG bH bI ((rd_T53 aA aB).f0) ((rd_T53 aA aB).f1) ((rd_T53 aA aB).f2) ((rd_T53 aA aB).f3) ((rd_T53 aA aB).f4) ((rd_T53 aA aB).f5) ((rd_T53 aA aB).f6) ((rd_T53 aA aB).f7)).bind fun a5 => (if (!(a5.1 == bF) || (!(a5.2.1 == bG) || (!(a5.2.2.1 == bH) || (!(a5.2.2.2.1 == bI))))) = true then (none) else (if (a5.2.2.2.2.length : Int) = 1 then (if 0 < (a5.2.2.2.2.length : Int) then (if ((rd_T53 a5.2.2.2.2 0).f0) = 12 then (standbylaw32_CommitRefuses.j3 kj36 l0 bE aB a5.2.2.2.2 (((rd_T53 a5.2.2.2.2 0).f5) != a5.1) a8 aW aS aX aU bF bG bH bI aV aA b5 ((rd_T53 aA aB).f0) ((rd_T53 aA aB).f1) ((rd_T53 aA aB).f2) ((rd_T53 aA aB).f3) ((rd_T53 aA aB).f4) ((rd_T53 aA aB).f5) a5.1 a5.2.1 a5.2.2.1 a5.2.2.2.1) else (none)) else (none)) else (none)))) = some r := by rw [if_neg (show ¬ (false = true) by decide)] at H; exact H
             clear H
             have H := H1
             clear H1
             replace H := Option.bind_eq_some_iff.mp H
             obtain ⟨⟨bC, bV, bW, bX, aH⟩, A530, H⟩ := H
             (try dsimp only at H)
             have A53 := Aside0.mk A530
             clear A530
             have HC54 := Aside0.mk H
             clear H
             have hnb55 := aM.out
             have hnc55 := cM.out
             obtain ⟨k0, k3, k4, k5, k6, k7, k8, k9, lA, lB, kA, kC⟩ := cz12 aC.out
             obtain ⟨lC, lD, lE, lF, lG, lH, lI, lJ, lK, lL, kD, kE⟩ := fz12 aC.out
             obtain ⟨lM, lN, lO, lP, lQ, lR, lS, lT⟩ := cz8 aJ.out
             obtain ⟨lU, lV, lW, lX, lY, lZ, l2, l3⟩ := fz8 aJ.out
             go_upto_region 14 with (first | ((with_reducible refine gate_callee (f := 35) rfl ?_); refine goesL_ (some 61) rfl rfl Try.func35 (by kernel_rfl) rfl #[.agg #[.int .i64 bF, .int .i64 bG, .int .i64 bH, .int .i64 bI], .agg #[.int .i64 ((rd_T53 aA aB).f0), .int .i64 ((rd_T53 aA aB).f1), .int .i64 ((rd_T53 aA aB).f2), .int .i64 ((rd_T53 aA aB).f3), .int .i64 ((rd_T53 aA aB).f4), .int .i64 ((rd_T53 aA aB).f5), .slice none 0 0, .slice none 0 0]] rfl (by (try simp only [List.map_toArray, List.map_cons, List.map_nil]); first | done | rfl | (simp only [List.length_drop, List.length_take]; rfl)) ?_; (with_reducible refine (commit_Answer.calls kj36 bF bG bH bI ((rd_T53 aA aB).f0) ((rd_T53 aA aB).f1) ((rd_T53 aA aB).f2) ((rd_T53 aA aB).f3) ((rd_T53 aA aB).f4) ((rd_T53 aA aB).f5) ((rd_T53 aA aB).f6) (.slice none 0 0) ((rd_T53 aA aB).f7) (.slice none 0 0) bC bV bW bX aH _ A53.out).mono ?_); rintro e w58 ⟨dT, rfl, ho0, hb⟩; refine ⟨_, rfl, ?_⟩; replace aE := Aside0.mk (Kd.V_elder' (mV aE.out) (Kd.R_base ho0) hb); replace aF := tR aF hb; have cI := Aside0.mk (Kd.R_lower (Kd.R_newB (Kd.R_new' ho0 (Kd.R_lt (mR aD.out))) (mK aJ.out)) (kZ HB.out)); replace aD := Aside0.mk (Kd.R_elder' (mR aD.out) (Kd.R_base ho0) hb); replace aC := tK aC hb; replace aJ := tK aJ hb; replace HB := tB HB hb; (try clear hb); (try clear hb2); (try clear hk); (try clear hi); (try clear ho0)) | ((with_reducible refine gate_dst (N := 7) rfl ?_); (try (refine gate_guard (by rfl) ?_; dsimp only)); refine box_event ?hg (N := 7) ?hd (cs := #[.int .i64 0, .int .i64 0, .int .i64 0, .int .i64 0]) (t := 26) ?hr ?_; (case hd => rfl); (case hg => rfl); (case hr => first | (go_simp; done) | (go_simp; rfl)); intro aK hg w59 hbox hb; replace aE := Aside0.mk (Kd.V_below (Kd.V_elderB (mV aE.out) aK (Nat.le_of_eq hg.symm)) hb); replace aF := tR aF hb; replace aD := tR aD hb; replace cI := tR cI hb; have aR := Aside0.mk (hbox); have GW926 := gZ HB hg; have GE926 := gZ HB hg; replace HB := tB HB hb; have cN := nL aC hg; have fF := nG aC hg; replace aC := tK aC hb; have cO := nL aJ hg; have fG := nG aJ hg; replace aJ := tK aJ hb; clear hb hbox hg; have hnb60 := fF.out; have hnc60 := cN.out; have hnb61 := fG.out; have hnc61 := cO.out; obtain ⟨l4, l5, l6, l7⟩ := cz4 aR.out; obtain ⟨l8, l9, mA, mB⟩ := fz4 aR.out))
             (try simp only [Act.put, sA, sB, sC])
             go_cut [88] (fun v88 wc => ∃ (kq : Nat) (e0 : Bool), v88 = .bool e0 ∧ Aside0 (standbylaw32_CommitRefuses.j3 kq l0 bE aB aH e0 a8 aW aS aX aU bF bG bH bI aV aA b5 ((rd_T53 aA aB).f0) ((rd_T53 aA aB).f1) ((rd_T53 aA aB).f2) ((rd_T53 aA aB).f3) ((rd_T53 aA aB).f4) ((rd_T53 aA aB).f5) bC bV bW bX = some r) ∧ Aside0 (kq ≤ kj36) ∧ Aside0 (Kd.R k53 53 wc w.heap.size (fun k_ => some k_ ≠ ((.slice (some a1) aA.length a2) : Value).ownBlock ∧ k_ ≠ aO) dT aH) ∧ Aside0 (Kd.V (Kd.int .i64) 3 wc w.heap.size (fun k_ => some k_ ≠ (dT : Value).ownBlock ∧ some k_ ≠ ((.slice a9 aV.length bA) : Value).ownBlock ∧ some k_ ≠ ((.slice (some a1) aA.length a2) : Value).ownBlock ∧ k_ ≠ aI ∧ k_ ≠ aO ∧ k_ ≠ aK) (.slice aY aS.length aZ) aS) ∧ Aside0 (Kd.R (Kd.int .i64) 3 wc w.heap.size (fun _ => True) (.slice a9 aV.length bA) aV) ∧ Aside0 (Kd.R k53 53 wc w.heap.size (fun k_ => some k_ ≠ (dT : Value).ownBlock ∧ k_ ≠ aO) (.slice (some a1) aA.length a2) aA) ∧ Aside0 (wc.heap[aI]? = some (.cells #[.int .i64 a8, .int .i64 aW, (.slice aY aS.length aZ), .int .i64 aX, .int .i64 aU, .int .i64 bF, .int .i64 bG, .int .i64 bH, .int .i64 bI, (.slice a9 aV.length bA), (.slice (some a1) aA.length a2), .bool b5] 67 (0, 0))) ∧ Aside0 (wc.heap[aO]? = some (.cells #[.int .i64 ((rd_T53 aA aB).f0), .int .i64 ((rd_T53 aA aB).f1), .int .i64 ((rd_T53 aA aB).f2), .int .i64 ((rd_T53 aA aB).f3), .int .i64 ((rd_T53 aA aB).f4), .int .i64 ((rd_T53 aA aB).f5), .slice none 0 0, .slice none 0 0] 53 (0, 0))) ∧ Aside0 (wc.heap[aK]? = some (.cells #[.int .i64 bC, .int .i64 bV, .int .i64 bW, .int .i64 bX] 26 (0, 0))) ∧ Aside0 (Below w.heap.size w wc))
             case first =>
              have H := HC54.out
              clear HC54
              by_cases c63 : (!(bC == bF) || (!(bV == bG) || (!(bW == bH) || (!(bX == bI))))) = true
              ·rw [if_pos c63] at H
               exact absurd H (by simp)
              ·rw [if_neg c63] at H
               have jZ : (!(bC == bF) || (!(bV == bG) || (!(bW == bH) || (!(bX == bI))))) = false := by simpa using c63
               clear c63
               (first | rw [jZ] | (simp only [i64_w, i32_w]; rw [jZ]) | skip)
               by_cases c64 : (aH.length : Int) = 1
               ·rw [if_pos c64] at H
                have mQ : ((aH.length : Int) == 1) = true := beq_iff_eq.mpr c64
                have mS : ((aH.length : Int) != 1) = false := bne_eq_false_iff_eq.mpr c64
                clear c64
                by_cases c65 : 0 < (aH.length : Int)
                ·rw [if_pos c65] at H
                 have mT : decide (0 < (aH.length : Int)) = true := decide_eq_true c65
                 have mU : decide (0 < aH.length) = true := decide_eq_true (by omega)
                 clear c65
                 by_cases c66 : ((rd_T53 aH 0).f0) = 12
                 ·rw [if_pos c66] at H
                  have mW : (((rd_T53 aH 0).f0) == 12) = true := beq_iff_eq.mpr c66
                  have mX : (((rd_T53 aH 0).f0) != 12) = false := bne_eq_false_iff_eq.mpr c66
                  clear c66
                  have H' := Aside0.mk H
                  clear H
                  try go_wp2
                  have n0_ : Aside0 (Kd.V (Kd.int .i64) 3 ((((w59.setCell ⟨aK, 0, none⟩ (.int .i64 bC)).setCell ⟨aK, 1, none⟩ (.int .i64 bV)).setCell ⟨aK, 2, none⟩ (.int .i64 bW)).setCell ⟨aK, 3, none⟩ (.int .i64 bX)) w.heap.size (fun k_ => some k_ ≠ (.slice a9 aV.length bA : Value).ownBlock ∧ some k_ ≠ (.slice (some a1) aA.length a2 : Value).ownBlock ∧ some k_ ≠ (dT : Value).ownBlock ∧ k_ ≠ aI ∧ k_ ≠ aO ∧ k_ ≠ aK) (.slice aY aS.length aZ) aS) := ⟨by refine mV ?_; exact Kd.V_mono (vg4_0 aK (Kd.V_mono aE.out (fun k_ hk => (⟨hk, hk.2⟩ : _ ∧ k_ ≠ aK))) (fun _ hk => hk.2) (.int .i64 bC) (.int .i64 bV) (.int .i64 bW) (.int .i64 bX)) (fun _ hk => ⟨hk.1.1.1.1, ⟨hk.1.1.1.2.1, ⟨hk.1.1.2, ⟨hk.1.1.1.2.2.1, ⟨hk.1.1.1.2.2.2, hk.1.2⟩⟩⟩⟩⟩)⟩
                  have n1_ : Aside0 (Kd.R (Kd.int .i64) 3 ((((w59.setCell ⟨aK, 0, none⟩ (.int .i64 bC)).setCell ⟨aK, 1, none⟩ (.int .i64 bV)).setCell ⟨aK, 2, none⟩ (.int .i64 bW)).setCell ⟨aK, 3, none⟩ (.int .i64 bX)) w.heap.size (fun _ => True) (.slice a9 aV.length bA) aV) := ⟨by refine mR ?_; exact Kd.R_mono (rg4_0 aK (Kd.R_types aF.out aR.out (by decide)) (fun _ hk => hk.2) (.int .i64 bC) (.int .i64 bV) (.int .i64 bW) (.int .i64 bX)) (fun _ hk => trivial)⟩
                  have n2_ : Aside0 (Kd.R k53 53 ((((w59.setCell ⟨aK, 0, none⟩ (.int .i64 bC)).setCell ⟨aK, 1, none⟩ (.int .i64 bV)).setCell ⟨aK, 2, none⟩ (.int .i64 bW)).setCell ⟨aK, 3, none⟩ (.int .i64 bX)) w.heap.size (fun k_ => some k_ ≠ (dT : Value).ownBlock ∧ k_ ≠ aO) (.slice (some a1) aA.length a2) aA) := ⟨by refine mR ?_; exact Kd.R_mono (rg4_0 aK (Kd.R_types aD.out aR.out (by decide)) (fun _ hk => hk.2) (.int .i64 bC) (.int .i64 bV) (.int .i64 bW) (.int .i64 bX)) (fun _ hk => ⟨hk.1.2, hk.1.1⟩)⟩
                  have n3_ : Aside0 (Kd.R k53 53 ((((w59.setCell ⟨aK, 0, none⟩ (.int .i64 bC)).setCell ⟨aK, 1, none⟩ (.int .i64 bV)).setCell ⟨aK, 2, none⟩ (.int .i64 bW)).setCell ⟨aK, 3, none⟩ (.int .i64 bX)) w.heap.size (fun k_ => some k_ ≠ (.slice (some a1) aA.length a2 : Value).ownBlock ∧ k_ ≠ aO) dT aH) := ⟨by refine mR ?_; exact Kd.R_mono (rg4_0 aK (Kd.R_types cI.out aR.out (by decide)) (fun _ hk => hk.2) (.int .i64 bC) (.int .i64 bV) (.int .i64 bW) (.int .i64 bX)) (fun _ hk => ⟨hk.1.1.2, hk.1.2⟩)⟩
                  have n4_ : Aside0 (((((w59.setCell ⟨aK, 0, none⟩ (.int .i64 bC)).setCell ⟨aK, 1, none⟩ (.int .i64 bV)).setCell ⟨aK, 2, none⟩ (.int .i64 bW)).setCell ⟨aK, 3, none⟩ (.int .i64 bX)).heap[aI]? = some (.cells #[.int .i64 a8, .int .i64 aW, .slice aY aS.length aZ, .int .i64 aX, .int .i64 aU, .int .i64 bF, .int .i64 bG, .int .i64 bH, .int .i64 bI, .slice a9 aV.length bA, .slice (some a1) aA.length a2, .bool b5] 67 (0, 0))) := ⟨by exact (mK (fr (fr (fr (fr aC.out cN.out) cN.out) cN.out) cN.out))⟩
                  have n5_ : Aside0 (((((w59.setCell ⟨aK, 0, none⟩ (.int .i64 bC)).setCell ⟨aK, 1, none⟩ (.int .i64 bV)).setCell ⟨aK, 2, none⟩ (.int .i64 bW)).setCell ⟨aK, 3, none⟩ (.int .i64 bX)).heap[aO]? = some (.cells #[.int .i64 ((rd_T53 aA aB).f0), .int .i64 ((rd_T53 aA aB).f1), .int .i64 ((rd_T53 aA aB).f2), .int .i64 ((rd_T53 aA aB).f3), .int .i64 ((rd_T53 aA aB).f4), .int .i64 ((rd_T53 aA aB).f5), .slice none 0 0, .slice none 0 0] 53 (0, 0))) := ⟨by exact (mK (fr (fr (fr (fr aJ.out cO.out) cO.out) cO.out) cO.out))⟩
                  have n6_ : Aside0 (((((w59.setCell ⟨aK, 0, none⟩ (.int .i64 bC)).setCell ⟨aK, 1, none⟩ (.int .i64 bV)).setCell ⟨aK, 2, none⟩ (.int .i64 bW)).setCell ⟨aK, 3, none⟩ (.int .i64 bX)).heap[aK]? = some (.cells #[.int .i64 bC, .int .i64 bV, .int .i64 bW, .int .i64 bX] 26 (0, 0))) := ⟨by exact (mK (pt4_0_4 aR.out))⟩
                  have n7_ : Aside0 (Below w.heap.size w ((((w59.setCell ⟨aK, 0, none⟩ (.int .i64 bC)).setCell ⟨aK, 1, none⟩ (.int .i64 bV)).setCell ⟨aK, 2, none⟩ (.int .i64 bW)).setCell ⟨aK, 3, none⟩ (.int .i64 bX))) := ⟨kB HB.out⟩
                  (try clear aE)
                  (try clear aF)
                  (try clear aD)
                  (try clear cI)
                  (try clear aC)
                  (try clear aJ)
                  (try clear aR)
                  (try clear HB)
                  generalize ((((w59.setCell ⟨aK, 0, none⟩ (.int .i64 bC)).setCell ⟨aK, 1, none⟩ (.int .i64 bV)).setCell ⟨aK, 2, none⟩ (.int .i64 bW)).setCell ⟨aK, 3, none⟩ (.int .i64 bX)) = w67 at n0_ n1_ n2_ n3_ n4_ n5_ n6_ n7_ ⊢
                  have aE := n0_
                  have aF := n1_
                  have aD := n2_
                  have cI := n3_
                  have aC := n4_
                  have aJ := n5_
                  have aR := n6_
                  have HB := n7_
                  clear n0_ n1_ n2_ n3_ n4_ n5_ n6_ n7_
                  have n0_ := Aside0.mk (Kd.V_drew aE.out)
                  have n1_ := Aside0.mk (Kd.R_drew aF.out)
                  have n2_ := Aside0.mk (Kd.R_drew aD.out)
                  have n3_ := Aside0.mk (Kd.R_drew cI.out)
                  have n4_ := Aside0.mk (blk_drew aC.out)
                  have n5_ := Aside0.mk (blk_drew aJ.out)
                  have n6_ := Aside0.mk (blk_drew aR.out)
                  have n7_ := Aside0.mk (below_drew1 HB.out)
                  clear aE
                  clear aF
                  clear aD
                  clear cI
                  clear aC
                  clear aJ
                  clear aR
                  clear HB
                  have aE := n0_
                  have aF := n1_
                  have aD := n2_
                  have cI := n3_
                  have aC := n4_
                  have aJ := n5_
                  have aR := n6_
                  have HB := n7_
                  clear n0_ n1_ n2_ n3_ n4_ n5_ n6_ n7_
                  obtain ⟨Ao69, co69, mL⟩ := Kd.R_slice cI.out
                  (first | subst mL | (injection mL with f1_ f2_ f3_; have f4_ := f1_.symm; have f5_ := f3_.symm; clear f1_ f2_ f3_; subst f4_; subst f5_))
                  have p927 : 0 ≤ (0 : Int) := (by omega)
                  have q927 : 0 < (aH.length : Int) := of_decide_eq_true (by first | (with_reducible assumption) | assumption)
                  obtain ⟨a3, e927, cS, cT, cU, cV, cW, cX, cY, cZ⟩ := at_T53 (Kd.R_reads' cI.out).2.2 0 p927 q927
                  cases e927
                  have qi927 : (0 < aH.length) = True := eq_true (by omega)
                  (try rw [show ((0 : Int)).toNat = 0 from rfl] at cS)
                  (try rw [show 0 * 8 = 0 from rfl] at cS)
                  (try rw [Addr.add_zero'] at cS)
                  (try rw [show ((0 : Int)).toNat = 0 from rfl] at cT)
                  (try rw [show 0 * 8 = 0 from rfl] at cT)
                  (try rw [Addr.add_zero'] at cT)
                  (try rw [show ((0 : Int)).toNat = 0 from rfl] at cU)
                  (try rw [show 0 * 8 = 0 from rfl] at cU)
                  (try rw [Addr.add_zero'] at cU)
                  (try rw [show ((0 : Int)).toNat = 0 from rfl] at cV)
                  (try rw [show 0 * 8 = 0 from rfl] at cV)
                  (try rw [Addr.add_zero'] at cV)
                  (try rw [show ((0 : Int)).toNat = 0 from rfl] at cW)
                  (try rw [show 0 * 8 = 0 from rfl] at cW)
                  (try rw [Addr.add_zero'] at cW)
                  (try rw [show ((0 : Int)).toNat = 0 from rfl] at cX)
                  (try rw [show 0 * 8 = 0 from rfl] at cX)
                  (try rw [Addr.add_zero'] at cX)
                  (try rw [show ((0 : Int)).toNat = 0 from rfl] at cY)
                  (try rw [show 0 * 8 = 0 from rfl] at cY)
                  (try rw [Addr.add_zero'] at cY)
                  (try rw [show ((0 : Int)).toNat = 0 from rfl] at cZ)
                  (try rw [show 0 * 8 = 0 from rfl] at cZ)
                  (try rw [Addr.add_zero'] at cZ)
                  replace p927 := eq_true p927
                  replace q927 := eq_true q927
                  have p928 : 0 ≤ (0 : Int) := (by omega)
                  have q928 : 0 < (aH.length : Int) := of_decide_eq_true (by first | (with_reducible assumption) | assumption)
                  obtain ⟨mY, e928, c7, c8, c9, dA, dB, dC, dD, dE⟩ := at_T53 (Kd.R_reads' cI.out).2.2 0 p928 q928
                  obtain rfl : a3 = mY := (by injection e928)
                  have qi928 : (0 < aH.length) = True := eq_true (by omega)
                  (try rw [show ((0 : Int)).toNat = 0 from rfl] at c7)
                  (try rw [show 0 * 8 = 0 from rfl] at c7)
                  (try rw [Addr.add_zero'] at c7)
                  (try rw [show ((0 : Int)).toNat = 0 from rfl] at c8)
                  (try rw [show 0 * 8 = 0 from rfl] at c8)
                  (try rw [Addr.add_zero'] at c8)
                  (try rw [show ((0 : Int)).toNat = 0 from rfl] at c9)
                  (try rw [show 0 * 8 = 0 from rfl] at c9)
                  (try rw [Addr.add_zero'] at c9)
                  (try rw [show ((0 : Int)).toNat = 0 from rfl] at dA)
                  (try rw [show 0 * 8 = 0 from rfl] at dA)
                  (try rw [Addr.add_zero'] at dA)
                  (try rw [show ((0 : Int)).toNat = 0 from rfl] at dB)
                  (try rw [show 0 * 8 = 0 from rfl] at dB)
                  (try rw [Addr.add_zero'] at dB)
                  (try rw [show ((0 : Int)).toNat = 0 from rfl] at dC)
                  (try rw [show 0 * 8 = 0 from rfl] at dC)
                  (try rw [Addr.add_zero'] at dC)
                  (try rw [show ((0 : Int)).toNat = 0 from rfl] at dD)
                  (try rw [show 0 * 8 = 0 from rfl] at dD)
                  (try rw [Addr.add_zero'] at dD)
                  (try rw [show ((0 : Int)).toNat = 0 from rfl] at dE)
                  (try rw [show 0 * 8 = 0 from rfl] at dE)
                  (try rw [Addr.add_zero'] at dE)
                  replace p928 := eq_true p928
                  replace q928 := eq_true q928
                  refine start_ (n := 25) (S := fun w' => w'.cell? ⟨aK, 0, none⟩ = some (.int .i64 bC) ∧ w'.cell? ⟨aK, 1, none⟩ = some (.int .i64 bV) ∧ w'.cell? ⟨aK, 2, none⟩ = some (.int .i64 bW) ∧ w'.cell? ⟨aK, 3, none⟩ = some (.int .i64 bX) ∧ w'.cell? ⟨aI, 0, none⟩ = some (.int .i64 a8) ∧ w'.cell? ⟨aI, 1, none⟩ = some (.int .i64 aW) ∧ w'.cell? ⟨aI, 2, none⟩ = some (.slice aY aS.length aZ) ∧ w'.cell? ⟨aI, 3, none⟩ = some (.int .i64 aX) ∧ w'.cell? ⟨aI, 4, none⟩ = some (.int .i64 aU) ∧ w'.cell? ⟨aI, 5, none⟩ = some (.int .i64 bF) ∧ w'.cell? ⟨aI, 6, none⟩ = some (.int .i64 bG) ∧ w'.cell? ⟨aI, 7, none⟩ = some (.int .i64 bH) ∧ w'.cell? ⟨aI, 8, none⟩ = some (.int .i64 bI) ∧ w'.cell? ⟨aI, 9, none⟩ = some (.slice a9 aV.length bA) ∧ w'.cell? ⟨aI, 10, none⟩ = some (.slice (some a1) aA.length a2) ∧ w'.cell? ⟨aI, 11, none⟩ = some (.bool b5) ∧ w'.cell? a3 = some (.int .i64 ((rd_T53 aH 0).f0)) ∧ w'.cell? ⟨a3.block, a3.off + 1, none⟩ = some (.int .i64 ((rd_T53 aH 0).f1)) ∧ w'.cell? ⟨a3.block, a3.off + 2, none⟩ = some (.int .i64 ((rd_T53 aH 0).f2)) ∧ w'.cell? ⟨a3.block, a3.off + 3, none⟩ = some (.int .i64 ((rd_T53 aH 0).f3)) ∧ w'.cell? ⟨a3.block, a3.off + 4, none⟩ = some (.int .i64 ((rd_T53 aH 0).f4)) ∧ w'.cell? ⟨a3.block, a3.off + 5, none⟩ = some (.int .i64 ((rd_T53 aH 0).f5)) ∧ w'.cell? ⟨a3.block, a3.off + 6, none⟩ = some (.slice none 0 0) ∧ w'.cell? ⟨a3.block, a3.off + 7, none⟩ = some (.slice none 0 0) ∧ w'.cell? a3 = some (.int .i64 ((rd_T53 aH 0).f0)) ∧ w'.cell? ⟨a3.block, a3.off + 1, none⟩ = some (.int .i64 ((rd_T53 aH 0).f1)) ∧ w'.cell? ⟨a3.block, a3.off + 2, none⟩ = some (.int .i64 ((rd_T53 aH 0).f2)) ∧ w'.cell? ⟨a3.block, a3.off + 3, none⟩ = some (.int .i64 ((rd_T53 aH 0).f3)) ∧ w'.cell? ⟨a3.block, a3.off + 4, none⟩ = some (.int .i64 ((rd_T53 aH 0).f4)) ∧ w'.cell? ⟨a3.block, a3.off + 5, none⟩ = some (.int .i64 ((rd_T53 aH 0).f5)) ∧ w'.cell? ⟨a3.block, a3.off + 6, none⟩ = some (.slice none 0 0) ∧ w'.cell? ⟨a3.block, a3.off + 7, none⟩ = some (.slice none 0 0)) (ds := []) #[false, false, false, false, false, false, false, false, false, false, false, false, false, false, false, false, false, false, false, false, false, false, false, false, false] (by kernel_rfl) rfl rfl (ct4 aR.out ⟨(blk_cell aC.out 0).trans rfl, (blk_cell aC.out 1).trans rfl, (blk_cell aC.out 2).trans rfl, (blk_cell aC.out 3).trans rfl, (blk_cell aC.out 4).trans rfl, (blk_cell aC.out 5).trans rfl, (blk_cell aC.out 6).trans rfl, (blk_cell aC.out 7).trans rfl, (blk_cell aC.out 8).trans rfl, (blk_cell aC.out 9).trans rfl, (blk_cell aC.out 10).trans rfl, (blk_cell aC.out 11).trans rfl, cS, cT, cU, cV, cW, cX, cY, cZ, c7, c8, c9, dA, dB, dC, dD, dE⟩) (fun hHeld => ?_); refine with_tabW standbylaw32_CommitRefuses.tab14 standbylaw32_CommitRefuses.bits14 (fun HT_ HW_ => ?_)
                  generalize w67.drew = w68 at aE aF aD cI aC aJ aR HB cS cT cU cV cW cX cY cZ c7 c8 c9 dA dB dC dD dE hHeld ⊢
                  refine pure_ (i := 1) (N := some 65) (v := ?_) (a' := ?_) (bs 25 2) rfl rfl (any_of HT_.out (by kernel_rfl)) (fun _ _ _ h => h) (Or.inl ⟨by rfl, ?_⟩) ?_ ?_
                  rotate_left
                  ·intro w'
                   go_simp
                   with_reducible rfl
                  rotate_left
                  ·simp only [Act.put, sA, sB, sC, i64_w, i32_w]
                   rfl
                  refine take_ (i := 0) (N := some 64) (v := ?_) (a' := ?_) (bs 25 3) rfl rfl (take_ofW HT_.out HW_.out (by kernel_rfl)) (fun _ _ _ h => h) (Or.inl ⟨by rfl, ?_⟩) hHeld ?_ ?_
                  rotate_left
                  ·rintro w' ⟨s0, s1, s2, s3, s4, s5, s6, s7, s8, s9, s10, s11, s12, s13, s14, s15, s16, s17, s18, s19, s20, s21, s22, s23, s24, s25, s26, s27, s28, s29, s30, s31⟩
                   go_simp
                   with_reducible rfl
                  rotate_left
                  ·simp only [Act.put, sA, sB, sC, i64_w, i32_w]
                   rfl
                  refine take_ (i := 2) (N := some 66) (v := ?_) (a' := ?_) (bs 25 7) rfl rfl (take_ofW HT_.out HW_.out (by kernel_rfl)) (fun _ _ _ h => h) (Or.inl ⟨by rfl, ?_⟩) hHeld ?_ ?_
                  rotate_left
                  ·rintro w' ⟨s0, s1, s2, s3, s4, s5, s6, s7, s8, s9, s10, s11, s12, s13, s14, s15, s16, s17, s18, s19, s20, s21, s22, s23, s24, s25, s26, s27, s28, s29, s30, s31⟩
                   go_simp
                   with_reducible rfl
                  rotate_left
                  ·simp only [Act.put, sA, sB, sC, i64_w, i32_w]
                   rfl
                  refine pure_ (i := 3) (N := some 67) (v := ?_) (a' := ?_) (bs 25 15) rfl rfl (any_of HT_.out (by kernel_rfl)) (fun _ _ _ h => h) (Or.inl ⟨by rfl, ?_⟩) ?_ ?_
                  rotate_left
                  ·intro w'
                   go_simp
                   with_reducible rfl
                  rotate_left
                  ·simp only [Act.put, sA, sB, sC, i64_w, i32_w]
                   rfl
                  refine pure_ (i := 4) (N := some 68) (v := ?_) (a' := ?_) (bs 25 31) rfl rfl (any_of HT_.out (by kernel_rfl)) (fun _ _ _ h => h) (Or.inl ⟨by rfl, ?_⟩) ?_ ?_
                  rotate_left
                  ·intro w'
                   go_simp
                   with_reducible rfl
                  rotate_left
                  ·simp only [Act.put, sA, sB, sC, i64_w, i32_w]
                   rfl
                  refine pure_ (i := 5) (N := some 69) (v := ?_) (a' := ?_) (bs 25 63) rfl rfl (any_of HT_.out (by kernel_rfl)) (fun _ _ _ h => h) (Or.inl ⟨by rfl, ?_⟩) ?_ ?_
                  rotate_left
                  ·intro w'
                   go_simp
                   with_reducible rfl
                  rotate_left
                  ·simp only [Act.put, sA, sB, sC, i64_w, i32_w]
                   rfl
                  refine pure_ (i := 6) (N := some 70) (v := ?_) (a' := ?_) (bs 25 127) rfl rfl (any_of HT_.out (by kernel_rfl)) (fun _ _ _ h => h) (Or.inl ⟨by rfl, ?_⟩) ?_ ?_
                  rotate_left
                  ·intro w'
                   go_simp
                   with_reducible rfl
                  rotate_left
                  ·simp only [Act.put, sA, sB, sC, i64_w, i32_w]
                   rfl
                  refine pure_ (i := 7) (N := some 71) (v := ?_) (a' := ?_) (bs 25 255) rfl rfl (any_of HT_.out (by kernel_rfl)) (fun _ _ _ h => h) (Or.inl ⟨by rfl, ?_⟩) ?_ ?_
                  rotate_left
                  ·intro w'
                   go_simp
                   with_reducible rfl
                  rotate_left
                  ·simp only [Act.put, sA, sB, sC, i64_w, i32_w]
                   rfl
                  refine pure_ (i := 8) (N := some 72) (v := ?_) (a' := ?_) (bs 25 511) rfl rfl (any_of HT_.out (by kernel_rfl)) (fun _ _ _ h => h) (Or.inl ⟨by rfl, ?_⟩) ?_ ?_
                  rotate_left
                  ·intro w'
                   go_simp
                   with_reducible rfl
                  rotate_left
                  ·simp only [Act.put, sA, sB, sC, i64_w, i32_w]
                   rfl
                  refine pure_ (i := 9) (N := some 73) (v := ?_) (a' := ?_) (bs 25 1023) rfl rfl (any_of HT_.out (by kernel_rfl)) (fun _ _ _ h => h) (Or.inl ⟨by rfl, ?_⟩) ?_ ?_
                  rotate_left
                  ·intro w'
                   go_simp
                   with_reducible rfl
                  rotate_left
                  ·simp only [Act.put, sA, sB, sC, i64_w, i32_w]
                   rfl
                  refine pure_ (i := 10) (N := some 74) (v := ?_) (a' := ?_) (bs 25 2047) rfl rfl (any_of HT_.out (by kernel_rfl)) (fun _ _ _ h => h) (Or.inl ⟨by rfl, ?_⟩) ?_ ?_
                  rotate_left
                  ·intro w'
                   go_simp
                   with_reducible rfl
                  rotate_left
                  ·simp only [Act.put, sA, sB, sC, i64_w, i32_w]
                   rfl
                  refine pure_ (i := 11) (N := some 75) (v := ?_) (a' := ?_) (bs 25 4095) rfl rfl (any_of HT_.out (by kernel_rfl)) (fun _ _ _ h => h) (Or.inl ⟨by rfl, ?_⟩) ?_ ?_
                  rotate_left
                  ·intro w'
                   go_simp
                   with_reducible rfl
                  rotate_left
                  ·simp only [Act.put, sA, sB, sC, i64_w, i32_w]
                   rfl
                  refine pure_ (i := 12) (N := some 76) (v := ?_) (a' := ?_) (bs 25 8191) rfl rfl (any_of HT_.out (by kernel_rfl)) (fun _ _ _ h => h) (Or.inl ⟨by rfl, ?_⟩) ?_ ?_
                  rotate_left
                  ·intro w'
                   go_simp
                   with_reducible rfl
                  rotate_left
                  ·simp only [Act.put, sA, sB, sC, i64_w, i32_w]
                   rfl
                  refine take_ (i := 13) (N := some 77) (v := ?_) (a' := ?_) (bs 25 16383) rfl rfl (take_ofW HT_.out HW_.out (by kernel_rfl)) (fun _ _ _ h => h) (Or.inl ⟨by rfl, ?_⟩) hHeld ?_ ?_
                  rotate_left
                  ·rintro w' ⟨s0, s1, s2, s3, s4, s5, s6, s7, s8, s9, s10, s11, s12, s13, s14, s15, s16, s17, s18, s19, s20, s21, s22, s23, s24, s25, s26, s27, s28, s29, s30, s31⟩
                   go_simp
                   with_reducible rfl
                  rotate_left
                  ·simp only [Act.put, sA, sB, sC, i64_w, i32_w]
                   rfl
                  refine pure_ (i := 14) (N := some 78) (v := ?_) (a' := ?_) (bs 25 32767) rfl rfl (any_of HT_.out (by kernel_rfl)) (fun _ _ _ h => h) (Or.inl ⟨by rfl, ?_⟩) ?_ ?_
                  rotate_left
                  ·intro w'
                   go_simp
                   with_reducible rfl
                  rotate_left
                  ·simp only [Act.put, sA, sB, sC, i64_w, i32_w]
                   rfl
                  refine pure_ (i := 15) (N := some 79) (v := ?_) (a' := ?_) (bs 25 65535) rfl rfl (any_of HT_.out (by kernel_rfl)) (fun _ _ _ h => h) (Or.inl ⟨by rfl, ?_⟩) ?_ ?_
                  rotate_left
                  ·intro w'
                   go_simp
                   with_reducible rfl
                  rotate_left
                  ·simp only [Act.put, sA, sB, sC, i64_w, i32_w]
                   rfl
                  refine pure_ (i := 16) (N := some 80) (v := ?_) (a' := ?_) (bs 25 131071) rfl rfl (any_of HT_.out (by kernel_rfl)) (fun _ _ _ h => h) (Or.inl ⟨by rfl, ?_⟩) ?_ ?_
                  rotate_left
                  ·intro w'
                   go_simp
                   with_reducible rfl
                  rotate_left
                  ·simp only [Act.put, sA, sB, sC, i64_w, i32_w]
                   rfl
                  refine pure_ (i := 17) (N := some 81) (v := ?_) (a' := ?_) (bs 25 262143) rfl rfl (any_of HT_.out (by kernel_rfl)) (fun _ _ _ h => h) (Or.inl ⟨by rfl, ?_⟩) ?_ ?_
                  rotate_left
                  ·intro w'
                   go_simp
                   with_reducible rfl
                  rotate_left
                  ·simp only [Act.put, sA, sB, sC, i64_w, i32_w]
                   rfl
                  refine pure_ (i := 18) (N := some 82) (v := ?_) (a' := ?_) (bs 25 524287) rfl rfl (any_of HT_.out (by kernel_rfl)) (fun _ _ _ h => h) (Or.inl ⟨by rfl, ?_⟩) ?_ ?_
                  rotate_left
                  ·intro w'
                   go_simp
                   with_reducible rfl
                  rotate_left
                  ·simp only [Act.put, sA, sB, sC, i64_w, i32_w]
                   rfl
                  refine pure_ (i := 19) (N := some 83) (v := ?_) (a' := ?_) (bs 25 1048575) rfl rfl (any_of HT_.out (by kernel_rfl)) (fun _ _ _ h => h) (Or.inl ⟨by rfl, ?_⟩) ?_ ?_
                  rotate_left
                  ·intro w'
                   go_simp
                   with_reducible rfl
                  rotate_left
                  ·simp only [Act.put, sA, sB, sC, i64_w, i32_w]
                   rfl
                  refine pure_ (i := 21) (N := some 85) (v := ?_) (a' := ?_) (bs 25 3145727) rfl rfl (any_of HT_.out (by kernel_rfl)) (fun _ _ _ h => h) (Or.inl ⟨by rfl, ?_⟩) ?_ ?_
                  rotate_left
                  ·intro w'
                   go_simp
                   with_reducible rfl
                  rotate_left
                  ·simp only [Act.put, sA, sB, sC, i64_w, i32_w]
                   rfl
                  refine take_ (i := 20) (N := some 84) (v := ?_) (a' := ?_) (bs 25 4194303) rfl rfl (take_ofW HT_.out HW_.out (by kernel_rfl)) (fun _ _ _ h => h) (Or.inl ⟨by rfl, ?_⟩) hHeld ?_ ?_
                  rotate_left
                  ·rintro w' ⟨s0, s1, s2, s3, s4, s5, s6, s7, s8, s9, s10, s11, s12, s13, s14, s15, s16, s17, s18, s19, s20, s21, s22, s23, s24, s25, s26, s27, s28, s29, s30, s31⟩
                   go_simp
                   with_reducible rfl
                  rotate_left
                  ·simp only [Act.put, sA, sB, sC, i64_w, i32_w]
                   rfl
                  refine take_ (i := 22) (N := some 86) (v := ?_) (a' := ?_) (bs 25 8388607) rfl rfl (take_ofW HT_.out HW_.out (by kernel_rfl)) (fun _ _ _ h => h) (Or.inl ⟨by rfl, ?_⟩) hHeld ?_ ?_
                  rotate_left
                  ·rintro w' ⟨s0, s1, s2, s3, s4, s5, s6, s7, s8, s9, s10, s11, s12, s13, s14, s15, s16, s17, s18, s19, s20, s21, s22, s23, s24, s25, s26, s27, s28, s29, s30, s31⟩
                   go_simp
                   with_reducible rfl
                  rotate_left
                  ·simp only [Act.put, sA, sB, sC, i64_w, i32_w]
                   rfl
                  refine pure_ (i := 23) (N := some 87) (v := ?_) (a' := ?_) (bs 25 16777215) rfl rfl (any_of HT_.out (by kernel_rfl)) (fun _ _ _ h => h) (Or.inl ⟨by rfl, ?_⟩) ?_ ?_
                  rotate_left
                  ·intro w'
                   go_simp
                   with_reducible rfl
                  rotate_left
                  ·simp only [Act.put, sA, sB, sC, i64_w, i32_w]
                   rfl
                  refine pure_ (i := 24) (N := some 88) (v := ?_) (a' := ?_) (bs 25 33554431) rfl rfl (any_of HT_.out (by kernel_rfl)) (fun _ _ _ h => h) (Or.inl ⟨by rfl, ?_⟩) ?_ ?_
                  rotate_left
                  ·intro w'
                   go_simp
                   with_reducible rfl
                  rotate_left
                  ·simp only [Act.put, sA, sB, sC, i64_w, i32_w]
                   rfl
                  refine done_ (done_of HT_.out (by kernel_rfl)) ?_
                  try go_wp2
                  go_meet
                  case rel => exact ⟨_, ((((rd_T53 aH 0).f5) != bC)), (by first | rfl | (simp; done) | (simp [*]; done)), H', ⟨by have := HK1.out; have := HK2.out; have := HJ36.out; first | omega | exact Nat.le_refl _⟩, ⟨by refine mR ?_; exact cI.out⟩, ⟨by refine mV ?_; exact Kd.V_mono aE.out (fun _ hk => ⟨hk.2.2.1, ⟨hk.1, ⟨hk.2.1, ⟨hk.2.2.2.1, ⟨hk.2.2.2.2.1, hk.2.2.2.2.2⟩⟩⟩⟩⟩)⟩, ⟨by refine mR ?_; exact aF.out⟩, ⟨by refine mR ?_; exact aD.out⟩, ⟨by refine mK ?_; exact aC.out⟩, ⟨by refine mK ?_; exact aJ.out⟩, ⟨by refine mK ?_; exact aR.out⟩, ⟨kB HB.out⟩⟩
                 ·rw [if_neg c66] at H
                  exact absurd H (by simp)
                ·rw [if_neg c65] at H
                 exact absurd H (by simp)
               ·rw [if_neg c64] at H
                exact absurd H (by simp)
             case rest =>
              clear HC54
              try clear p2
              try clear c3
              try clear c5
              try clear c6
              try clear p6
              try clear p8
              try clear q8
              try clear hx8
              try clear p9
              try clear q9
              try clear hx9
              try clear qi9
              try clear c35
              try clear c52
              try clear c55
              try clear c60
              try clear c61
              try clear c63
              try clear jZ
              try clear c64
              try clear mQ
              try clear mS
              try clear p64
              try clear c65
              try clear mT
              try clear mU
              try clear c66
              try clear mW
              try clear mX
              try clear gC
              try clear gV gW gX gY g0 g1 g2 g3
              try clear hC hD hE hF hG hH hI hJ
              try clear hT hU fV fW hV hW hX hY hZ h0 h1 h2
              try clear iD iE iF iG iH iI iJ iK
              try clear iT iU fZ f8 iV iW iX iY iZ i0 i1 i2
              try clear jD jE jF jG jH jI jJ jK
              try clear k0 k3 kA kC k4 k5 k6 k7 k8 k9 lA lB
              try clear lM lN lO lP lQ lR lS lT
              try clear l4 l5 l6 l7
              try clear eF eG d0 d1 eH eI eJ eK eL eM eN eO
              try clear gD gE fT fU gF gG gH gI gJ gK gL gM
              try clear g4 g5 g6 g7 g8 g9 hA hB
              try clear hL hM hN hO hP hQ hR hS
              try clear h3 h4 fX fY h5 h6 h7 h8 h9 iA iB iC
              try clear iL iM iN iO iP iQ iR iS
              try clear i3 i4 f9 gA i5 i6 i7 i8 i9 jA jB jC
              try clear jL jM jN jO jP jQ jR jS
              try clear lC lD kD kE lE lF lG lH lI lJ lK lL
              try clear lU lV lW lX lY lZ l2 l3
              try clear l8 l9 mA mB
              try clear eP eQ d2 d3 eR eS eT eU eV eW eX eY
              try clear cK
              try clear cL
              try clear gN
              try clear gO
              try clear gP
              try clear gQ
              try clear gR
              try clear gS
              try clear gT
              try clear gU
              try clear cS
              try clear cT
              try clear cU
              try clear cV
              try clear cW
              try clear cX
              try clear cY
              try clear cZ
              try clear c7
              try clear c8
              try clear c9
              try clear dA
              try clear dB
              try clear dC
              try clear dD
              try clear dE
              try clear p2
              try clear p8
              try clear p898
              try clear p917
              try clear p927
              try clear p928
              try clear q8
              try clear q898
              try clear q917
              try clear q927
              try clear q928
              obtain ⟨kq, e0, rfl, HA, HJ53, aQ, aE, aF, aD, aC, aJ, aR, HB⟩ := hcut
              cases kq with
              | zero => exact absurd HA.out (by simp [standbylaw32_CommitRefuses.j3])
              | succ kj53 =>
               have H := HA.out
               clear HA
               simp only [standbylaw32_CommitRefuses.j3] at H
               by_cases c70 : e0 = true
               ·subst c70
                have H1 : (none) = some r := by rw [if_pos rfl] at H; exact H
                clear H
                have H := H1
                clear H1
                exact absurd H (by simp)
               ·replace c70 := Bool.eq_false_iff.mpr c70
                subst c70
                have H1 : (if 0 < (aH.length : Int) then ((commit_Learn.f kj53 ((rd_T53 aA aB).f5) aW aS aX aU ((rd_T53 aH 0).f0) ((rd_T53 aH 0).f1) ((rd_T53 aH 0).f2) ((rd_T53 aH 0).f3) ((rd_T53 aH 0).f4) ((rd_T53 aH 0).f5) ((rd_T53 aH 0).f6) ((rd_T53 aH 0).f7)).bind fun cR => (if (cR.2.2.2.2.2.length : Int) = 0 then (if (cR.2.2.1.length : Int) = 0 then (if cR.1 = bC then (if cR.2.2.2.2.1 = aU then (standbylaw32_CommitRefuses.l1 kj53 l0 bE (wrap64 (aB + 1)) a8 aW aS aX aU bF bG bH bI aV aA b5) else (none)) else (none)) else (none)) else (none))) else (none)) = some r := by rw [if_neg (show ¬ (false = true) by decide)] at H; exact H
                clear H
                have H := H1
                clear H1
                by_cases c71 : 0 < (aH.length : Int)
                ·rw [if_pos c71] at H
                 have c71b0 : decide (0 < (aH.length : Int)) = true := decide_eq_true c71
                 have c71b1 : decide (0 < aH.length) = true := decide_eq_true (by omega)
                 clear c71
                 replace H := Option.bind_eq_some_iff.mp H
                 obtain ⟨⟨dF, dX, dK, dY, dG, d8⟩, A720, H⟩ := H
                 (try dsimp only at H)
                 have A72 := Aside0.mk A720
                 clear A720
                 by_cases c73 : (d8.length : Int) = 0
                 ·rw [if_pos c73] at H
                  have c73b0 : ((d8.length : Int) == 0) = true := beq_iff_eq.mpr c73
                  have c73b1 : ((d8.length : Int) != 0) = false := bne_eq_false_iff_eq.mpr c73
                  clear c73
                  by_cases c74 : (dK.length : Int) = 0
                  ·rw [if_pos c74] at H
                   have c74b0 : ((dK.length : Int) == 0) = true := beq_iff_eq.mpr c74
                   have c74b1 : ((dK.length : Int) != 0) = false := bne_eq_false_iff_eq.mpr c74
                   clear c74
                   by_cases c75 : dF = bC
                   ·rw [if_pos c75] at H
                    have c75b0 : (dF == bC) = true := beq_iff_eq.mpr c75
                    have c75b1 : (dF != bC) = false := bne_eq_false_iff_eq.mpr c75
                    clear c75
                    by_cases c76 : dG = aU
                    ·rw [if_pos c76] at H
                     have c76b0 : (dG == aU) = true := beq_iff_eq.mpr c76
                     have c76b1 : (dG != aU) = false := bne_eq_false_iff_eq.mpr c76
                     clear c76
                     have H' := Aside0.mk H
                     clear H
                     have hnb77 := aM.out
                     have hnc77 := cM.out
                     have hnb78 := cN.out
                     have hnc78 := fF.out
                     obtain ⟨pC, pD, pE, pF, pG, pH, pI, pJ, pK, pL, m9, nA⟩ := cz12 aC.out
                     obtain ⟨pM, pN, pO, pP, pQ, pR, pS, pT, pU, pV, nB, nC⟩ := fz12 aC.out
                     try go_wp2_with (first | ((with_reducible refine gate_dst (N := 9) rfl ?_); (try (refine gate_guard (by rfl) ?_; dsimp only)); refine box_event ?hg (N := 9) ?hd (cs := #[.int .i64 0, .int .i64 0, .slice none 0 0, .int .i64 0, .int .i64 0]) (t := 24) ?hr ?_; (case hd => rfl); (case hg => rfl); (case hr => first | (go_simp; done) | (go_simp; rfl)); intro aG hg w80 hbox hb; replace aQ := tR aQ hb; replace aE := Aside0.mk (Kd.V_below (Kd.V_elderB (mV aE.out) aG (Nat.le_of_eq hg.symm)) hb); replace aF := tR aF hb; replace aD := tR aD hb; have aT := Aside0.mk (hbox); have GW929 := gZ HB hg; have GE929 := gZ HB hg; replace HB := tB HB hb; have cF := nL aC hg; have j0 := nG aC hg; replace aC := tK aC hb; have cG := nL aJ hg; have j1 := nG aJ hg; replace aJ := tK aJ hb; have cH := nL aR hg; have j4 := nG aR hg; replace aR := tK aR hb; clear hb hbox hg; have hnb81 := j0.out; have hnc81 := cF.out; have hnb82 := j1.out; have hnc82 := cG.out; have hnb83 := j4.out; have hnc83 := cH.out; obtain ⟨pW, pX, pY, pZ, p0⟩ := cz5 aT.out; obtain ⟨p1, p3, p4, p5, p7⟩ := fz5 aT.out; have hnb85 := cO.out; have hnc85 := fG.out; obtain ⟨qA, qB, qC, qD, qE, qF, qG, qH⟩ := cz8 aJ.out; obtain ⟨qI, qJ, qK, qL, qM, qN, qO, qP⟩ := fz8 aJ.out))
                     have n0_ : Aside0 (Kd.R k53 53 ((((((w80.setCell ⟨aG, 0, none⟩ (.int .i64 a8)).setCell ⟨aG, 1, none⟩ (.int .i64 aW)).setCell ⟨aG, 2, none⟩ (.slice aY aS.length aZ)).setCell ⟨aG, 3, none⟩ (.int .i64 aX)).setCell ⟨aG, 4, none⟩ (.int .i64 aU)).setCell ⟨aG, 0, none⟩ (.int .i64 ((rd_T53 aA aB).f5))) w.heap.size (fun k_ => some k_ ≠ (.slice (some a1) aA.length a2 : Value).ownBlock ∧ k_ ≠ aO) dT aH) := ⟨by refine mR ?_; exact Kd.R_mono (Kd.R_far (p := ⟨aG, 0, none⟩) (rg5_0 aG (Kd.R_types aQ.out aT.out (by decide)) (fun _ hk => hk.2) (.int .i64 a8) (.int .i64 aW) (.slice aY aS.length aZ) (.int .i64 aX) (.int .i64 aU)) (fun _ hk => hk.2) (.int .i64 ((rd_T53 aA aB).f5))) (fun _ hk => ⟨hk.1.1, hk.1.2⟩)⟩
                     have n1_ : Aside0 (Kd.V (Kd.int .i64) 3 ((((((w80.setCell ⟨aG, 0, none⟩ (.int .i64 a8)).setCell ⟨aG, 1, none⟩ (.int .i64 aW)).setCell ⟨aG, 2, none⟩ (.slice aY aS.length aZ)).setCell ⟨aG, 3, none⟩ (.int .i64 aX)).setCell ⟨aG, 4, none⟩ (.int .i64 aU)).setCell ⟨aG, 0, none⟩ (.int .i64 ((rd_T53 aA aB).f5))) w.heap.size (fun k_ => some k_ ≠ (dT : Value).ownBlock ∧ some k_ ≠ (.slice a9 aV.length bA : Value).ownBlock ∧ some k_ ≠ (.slice (some a1) aA.length a2 : Value).ownBlock ∧ k_ ≠ aI ∧ k_ ≠ aO ∧ k_ ≠ aK ∧ k_ ≠ aG) (.slice aY aS.length aZ) aS) := ⟨by refine mV ?_; exact Kd.V_mono (Kd.V_far (p := ⟨aG, 0, none⟩) (vg5_0 aG (Kd.V_mono aE.out (fun k_ hk => (⟨hk, hk.2⟩ : _ ∧ k_ ≠ aG))) (fun _ hk => hk.2) (.int .i64 a8) (.int .i64 aW) (.slice aY aS.length aZ) (.int .i64 aX) (.int .i64 aU)) (fun _ hk => hk.2) (.int .i64 ((rd_T53 aA aB).f5))) (fun _ hk => ⟨hk.1.1.1, ⟨hk.1.1.2.1, ⟨hk.1.1.2.2.1, ⟨hk.1.1.2.2.2.1, ⟨hk.1.1.2.2.2.2.1, ⟨hk.1.1.2.2.2.2.2, hk.1.2⟩⟩⟩⟩⟩⟩)⟩
                     have n2_ : Aside0 (Kd.R (Kd.int .i64) 3 ((((((w80.setCell ⟨aG, 0, none⟩ (.int .i64 a8)).setCell ⟨aG, 1, none⟩ (.int .i64 aW)).setCell ⟨aG, 2, none⟩ (.slice aY aS.length aZ)).setCell ⟨aG, 3, none⟩ (.int .i64 aX)).setCell ⟨aG, 4, none⟩ (.int .i64 aU)).setCell ⟨aG, 0, none⟩ (.int .i64 ((rd_T53 aA aB).f5))) w.heap.size (fun _ => True) (.slice a9 aV.length bA) aV) := ⟨by refine mR ?_; exact Kd.R_mono (Kd.R_far (p := ⟨aG, 0, none⟩) (rg5_0 aG (Kd.R_types aF.out aT.out (by decide)) (fun _ hk => hk.2) (.int .i64 a8) (.int .i64 aW) (.slice aY aS.length aZ) (.int .i64 aX) (.int .i64 aU)) (fun _ hk => hk.2) (.int .i64 ((rd_T53 aA aB).f5))) (fun _ hk => trivial)⟩
                     have n3_ : Aside0 (Kd.R k53 53 ((((((w80.setCell ⟨aG, 0, none⟩ (.int .i64 a8)).setCell ⟨aG, 1, none⟩ (.int .i64 aW)).setCell ⟨aG, 2, none⟩ (.slice aY aS.length aZ)).setCell ⟨aG, 3, none⟩ (.int .i64 aX)).setCell ⟨aG, 4, none⟩ (.int .i64 aU)).setCell ⟨aG, 0, none⟩ (.int .i64 ((rd_T53 aA aB).f5))) w.heap.size (fun k_ => some k_ ≠ (dT : Value).ownBlock ∧ k_ ≠ aO) (.slice (some a1) aA.length a2) aA) := ⟨by refine mR ?_; exact Kd.R_mono (Kd.R_far (p := ⟨aG, 0, none⟩) (rg5_0 aG (Kd.R_types aD.out aT.out (by decide)) (fun _ hk => hk.2) (.int .i64 a8) (.int .i64 aW) (.slice aY aS.length aZ) (.int .i64 aX) (.int .i64 aU)) (fun _ hk => hk.2) (.int .i64 ((rd_T53 aA aB).f5))) (fun _ hk => ⟨hk.1.1, hk.1.2⟩)⟩
                     have n4_ : Aside0 (((((((w80.setCell ⟨aG, 0, none⟩ (.int .i64 a8)).setCell ⟨aG, 1, none⟩ (.int .i64 aW)).setCell ⟨aG, 2, none⟩ (.slice aY aS.length aZ)).setCell ⟨aG, 3, none⟩ (.int .i64 aX)).setCell ⟨aG, 4, none⟩ (.int .i64 aU)).setCell ⟨aG, 0, none⟩ (.int .i64 ((rd_T53 aA aB).f5))).heap[aI]? = some (.cells #[.int .i64 a8, .int .i64 aW, .slice aY aS.length aZ, .int .i64 aX, .int .i64 aU, .int .i64 bF, .int .i64 bG, .int .i64 bH, .int .i64 bI, .slice a9 aV.length bA, .slice (some a1) aA.length a2, .bool b5] 67 (0, 0))) := ⟨by exact (mK (fr (fr (fr (fr (fr (fr aC.out cF.out) cF.out) cF.out) cF.out) cF.out) cF.out))⟩
                     have n5_ : Aside0 (((((((w80.setCell ⟨aG, 0, none⟩ (.int .i64 a8)).setCell ⟨aG, 1, none⟩ (.int .i64 aW)).setCell ⟨aG, 2, none⟩ (.slice aY aS.length aZ)).setCell ⟨aG, 3, none⟩ (.int .i64 aX)).setCell ⟨aG, 4, none⟩ (.int .i64 aU)).setCell ⟨aG, 0, none⟩ (.int .i64 ((rd_T53 aA aB).f5))).heap[aO]? = some (.cells #[.int .i64 ((rd_T53 aA aB).f0), .int .i64 ((rd_T53 aA aB).f1), .int .i64 ((rd_T53 aA aB).f2), .int .i64 ((rd_T53 aA aB).f3), .int .i64 ((rd_T53 aA aB).f4), .int .i64 ((rd_T53 aA aB).f5), .slice none 0 0, .slice none 0 0] 53 (0, 0))) := ⟨by exact (mK (fr (fr (fr (fr (fr (fr aJ.out cG.out) cG.out) cG.out) cG.out) cG.out) cG.out))⟩
                     have n6_ : Aside0 (((((((w80.setCell ⟨aG, 0, none⟩ (.int .i64 a8)).setCell ⟨aG, 1, none⟩ (.int .i64 aW)).setCell ⟨aG, 2, none⟩ (.slice aY aS.length aZ)).setCell ⟨aG, 3, none⟩ (.int .i64 aX)).setCell ⟨aG, 4, none⟩ (.int .i64 aU)).setCell ⟨aG, 0, none⟩ (.int .i64 ((rd_T53 aA aB).f5))).heap[aK]? = some (.cells #[.int .i64 bC, .int .i64 bV, .int .i64 bW, .int .i64 bX] 26 (0, 0))) := ⟨by exact (mK (fr (fr (fr (fr (fr (fr aR.out cH.out) cH.out) cH.out) cH.out) cH.out) cH.out))⟩
                     have n7_ : Aside0 (((((((w80.setCell ⟨aG, 0, none⟩ (.int .i64 a8)).setCell ⟨aG, 1, none⟩ (.int .i64 aW)).setCell ⟨aG, 2, none⟩ (.slice aY aS.length aZ)).setCell ⟨aG, 3, none⟩ (.int .i64 aX)).setCell ⟨aG, 4, none⟩ (.int .i64 aU)).setCell ⟨aG, 0, none⟩ (.int .i64 ((rd_T53 aA aB).f5))).heap[aG]? = some (.cells #[.int .i64 ((rd_T53 aA aB).f5), .int .i64 aW, .slice aY aS.length aZ, .int .i64 aX, .int .i64 aU] 24 (0, 0))) := ⟨by exact (mK (pt5_0_1 (pt5_0_5 aT.out)))⟩
                     have n8_ : Aside0 (Below w.heap.size w ((((((w80.setCell ⟨aG, 0, none⟩ (.int .i64 a8)).setCell ⟨aG, 1, none⟩ (.int .i64 aW)).setCell ⟨aG, 2, none⟩ (.slice aY aS.length aZ)).setCell ⟨aG, 3, none⟩ (.int .i64 aX)).setCell ⟨aG, 4, none⟩ (.int .i64 aU)).setCell ⟨aG, 0, none⟩ (.int .i64 ((rd_T53 aA aB).f5)))) := ⟨kB HB.out⟩
                     (try clear aQ)
                     (try clear aE)
                     (try clear aF)
                     (try clear aD)
                     (try clear aC)
                     (try clear aJ)
                     (try clear aR)
                     (try clear aT)
                     (try clear HB)
                     generalize ((((((w80.setCell ⟨aG, 0, none⟩ (.int .i64 a8)).setCell ⟨aG, 1, none⟩ (.int .i64 aW)).setCell ⟨aG, 2, none⟩ (.slice aY aS.length aZ)).setCell ⟨aG, 3, none⟩ (.int .i64 aX)).setCell ⟨aG, 4, none⟩ (.int .i64 aU)).setCell ⟨aG, 0, none⟩ (.int .i64 ((rd_T53 aA aB).f5))) = w87 at n0_ n1_ n2_ n3_ n4_ n5_ n6_ n7_ n8_ ⊢
                     have aQ := n0_
                     have aE := n1_
                     have aF := n2_
                     have aD := n3_
                     have aC := n4_
                     have aJ := n5_
                     have aR := n6_
                     have aT := n7_
                     have HB := n8_
                     clear n0_ n1_ n2_ n3_ n4_ n5_ n6_ n7_ n8_
                     have n0_ := Aside0.mk (Kd.R_drew aQ.out)
                     have n1_ := Aside0.mk (Kd.V_drew aE.out)
                     have n2_ := Aside0.mk (Kd.R_drew aF.out)
                     have n3_ := Aside0.mk (Kd.R_drew aD.out)
                     have n4_ := Aside0.mk (blk_drew aC.out)
                     have n5_ := Aside0.mk (blk_drew aJ.out)
                     have n6_ := Aside0.mk (blk_drew aR.out)
                     have n7_ := Aside0.mk (blk_drew aT.out)
                     have n8_ := Aside0.mk (below_drew1 HB.out)
                     clear aQ
                     clear aE
                     clear aF
                     clear aD
                     clear aC
                     clear aJ
                     clear aR
                     clear aT
                     clear HB
                     have aQ := n0_
                     have aE := n1_
                     have aF := n2_
                     have aD := n3_
                     have aC := n4_
                     have aJ := n5_
                     have aR := n6_
                     have aT := n7_
                     have HB := n8_
                     clear n0_ n1_ n2_ n3_ n4_ n5_ n6_ n7_ n8_
                     obtain ⟨Ao89, cP, mM⟩ := Kd.R_slice aQ.out
                     (first | subst mM | (injection mM with f1_ f2_ f3_; have f4_ := f1_.symm; have f5_ := f3_.symm; clear f1_ f2_ f3_; subst f4_; subst f5_))
                     have p930 : 0 ≤ (0 : Int) := (by omega)
                     have q930 : 0 < (aH.length : Int) := of_decide_eq_true (by first | (with_reducible assumption) | assumption)
                     obtain ⟨aL, e930, dL, dM, dN, dO, dP, dQ, dR, dS⟩ := at_T53 (Kd.R_reads' aQ.out).2.2 0 p930 q930
                     cases e930
                     have qi930 : (0 < aH.length) = True := eq_true (by omega)
                     (try rw [show ((0 : Int)).toNat = 0 from rfl] at dL)
                     (try rw [show 0 * 8 = 0 from rfl] at dL)
                     (try rw [Addr.add_zero'] at dL)
                     (try rw [show ((0 : Int)).toNat = 0 from rfl] at dM)
                     (try rw [show 0 * 8 = 0 from rfl] at dM)
                     (try rw [Addr.add_zero'] at dM)
                     (try rw [show ((0 : Int)).toNat = 0 from rfl] at dN)
                     (try rw [show 0 * 8 = 0 from rfl] at dN)
                     (try rw [Addr.add_zero'] at dN)
                     (try rw [show ((0 : Int)).toNat = 0 from rfl] at dO)
                     (try rw [show 0 * 8 = 0 from rfl] at dO)
                     (try rw [Addr.add_zero'] at dO)
                     (try rw [show ((0 : Int)).toNat = 0 from rfl] at dP)
                     (try rw [show 0 * 8 = 0 from rfl] at dP)
                     (try rw [Addr.add_zero'] at dP)
                     (try rw [show ((0 : Int)).toNat = 0 from rfl] at dQ)
                     (try rw [show 0 * 8 = 0 from rfl] at dQ)
                     (try rw [Addr.add_zero'] at dQ)
                     (try rw [show ((0 : Int)).toNat = 0 from rfl] at dR)
                     (try rw [show 0 * 8 = 0 from rfl] at dR)
                     (try rw [Addr.add_zero'] at dR)
                     (try rw [show ((0 : Int)).toNat = 0 from rfl] at dS)
                     (try rw [show 0 * 8 = 0 from rfl] at dS)
                     (try rw [Addr.add_zero'] at dS)
                     replace p930 := eq_true p930
                     replace q930 := eq_true q930
                     refine start_ (n := 11) (S := fun w' => w'.cell? ⟨aG, 0, none⟩ = some (.int .i64 ((rd_T53 aA aB).f5)) ∧ w'.cell? ⟨aG, 1, none⟩ = some (.int .i64 aW) ∧ w'.cell? ⟨aG, 2, none⟩ = some (.slice aY aS.length aZ) ∧ w'.cell? ⟨aG, 3, none⟩ = some (.int .i64 aX) ∧ w'.cell? ⟨aG, 4, none⟩ = some (.int .i64 aU) ∧ w'.cell? aL = some (.int .i64 ((rd_T53 aH 0).f0)) ∧ w'.cell? ⟨aL.block, aL.off + 1, none⟩ = some (.int .i64 ((rd_T53 aH 0).f1)) ∧ w'.cell? ⟨aL.block, aL.off + 2, none⟩ = some (.int .i64 ((rd_T53 aH 0).f2)) ∧ w'.cell? ⟨aL.block, aL.off + 3, none⟩ = some (.int .i64 ((rd_T53 aH 0).f3)) ∧ w'.cell? ⟨aL.block, aL.off + 4, none⟩ = some (.int .i64 ((rd_T53 aH 0).f4)) ∧ w'.cell? ⟨aL.block, aL.off + 5, none⟩ = some (.int .i64 ((rd_T53 aH 0).f5)) ∧ w'.cell? ⟨aL.block, aL.off + 6, none⟩ = some (.slice none 0 0) ∧ w'.cell? ⟨aL.block, aL.off + 7, none⟩ = some (.slice none 0 0)) (ds := []) #[false, false, false, false, false, false, false, false, false, false, false] (by kernel_rfl) rfl rfl (ct5 aT.out ⟨dL, dM, dN, dO, dP, dQ, dR, dS⟩) (fun hHeld => ?_); refine with_tabW standbylaw32_CommitRefuses.tab18 standbylaw32_CommitRefuses.bits18 (fun HT_ HW_ => ?_)
                     generalize w87.drew = w88 at aQ aE aF aD aC aJ aR aT HB dL dM dN dO dP dQ dR dS hHeld ⊢
                     refine pure_ (i := 1) (N := some 96) (v := ?_) (a' := ?_) (bs 11 2) rfl rfl (any_of HT_.out (by kernel_rfl)) (fun _ _ _ h => h) (Or.inl ⟨by rfl, ?_⟩) ?_ ?_
                     rotate_left
                     ·intro w'
                      go_simp
                      with_reducible rfl
                     rotate_left
                     ·simp only [Act.put, sA, sB, sC, i64_w, i32_w]
                      rfl
                     refine pure_ (i := 2) (N := some 97) (v := ?_) (a' := ?_) (bs 11 6) rfl rfl (any_of HT_.out (by kernel_rfl)) (fun _ _ _ h => h) (Or.inl ⟨by rfl, ?_⟩) ?_ ?_
                     rotate_left
                     ·intro w'
                      go_simp
                      with_reducible rfl
                     rotate_left
                     ·simp only [Act.put, sA, sB, sC, i64_w, i32_w]
                      rfl
                     refine take_ (i := 0) (N := some 95) (v := ?_) (a' := ?_) (bs 11 7) rfl rfl (take_ofW HT_.out HW_.out (by kernel_rfl)) (fun _ _ _ h => h) (Or.inl ⟨by rfl, ?_⟩) hHeld ?_ ?_
                     rotate_left
                     ·rintro w' ⟨s0, s1, s2, s3, s4, s5, s6, s7, s8, s9, s10, s11, s12⟩
                      go_simp
                      with_reducible rfl
                     rotate_left
                     ·simp only [Act.put, sA, sB, sC, i64_w, i32_w]
                      rfl
                     refine take_ (i := 3) (N := some 98) (v := ?_) (a' := ?_) (bs 11 15) rfl rfl (take_ofW HT_.out HW_.out (by kernel_rfl)) (fun _ _ _ h => h) (Or.inl ⟨by rfl, ?_⟩) hHeld ?_ ?_
                     rotate_left
                     ·rintro w' ⟨s0, s1, s2, s3, s4, s5, s6, s7, s8, s9, s10, s11, s12⟩
                      go_simp
                      with_reducible rfl
                     rotate_left
                     ·simp only [Act.put, sA, sB, sC, i64_w, i32_w]
                      rfl
                     refine join_ (σ := Value × Value × Nat) 2 #[true, true, true, true, true, true, true, true, true, false, false] (fun s_ => [(99, .tuple #[.agg #[.int .i64 dF, .int .i64 dX, s_.1, .int .i64 dY, .int .i64 dG], s_.2.1]), (10, .pointer (some ⟨s_.2.2, 0, none⟩)), (94, .tuple #[.agg #[.int .i64 dF, .int .i64 dX, s_.1, .int .i64 dY, .int .i64 dG], s_.2.1]), (100, .agg #[.int .i64 dF, .int .i64 dX, s_.1, .int .i64 dY, .int .i64 dG]), (101, s_.2.1)]) (fun s_ w' => (w'.cell? ⟨aG, 0, none⟩ = some (.int .i64 ((rd_T53 aA aB).f5)) ∧ w'.cell? ⟨aG, 1, none⟩ = some (.int .i64 aW) ∧ w'.cell? ⟨aG, 2, none⟩ = some (.slice aY aS.length aZ) ∧ w'.cell? ⟨aG, 3, none⟩ = some (.int .i64 aX) ∧ w'.cell? ⟨aG, 4, none⟩ = some (.int .i64 aU) ∧ w'.cell? aL = some (.int .i64 ((rd_T53 aH 0).f0)) ∧ w'.cell? ⟨aL.block, aL.off + 1, none⟩ = some (.int .i64 ((rd_T53 aH 0).f1)) ∧ w'.cell? ⟨aL.block, aL.off + 2, none⟩ = some (.int .i64 ((rd_T53 aH 0).f2)) ∧ w'.cell? ⟨aL.block, aL.off + 3, none⟩ = some (.int .i64 ((rd_T53 aH 0).f3)) ∧ w'.cell? ⟨aL.block, aL.off + 4, none⟩ = some (.int .i64 ((rd_T53 aH 0).f4)) ∧ w'.cell? ⟨aL.block, aL.off + 5, none⟩ = some (.int .i64 ((rd_T53 aH 0).f5)) ∧ w'.cell? ⟨aL.block, aL.off + 6, none⟩ = some (.slice none 0 0) ∧ w'.cell? ⟨aL.block, aL.off + 7, none⟩ = some (.slice none 0 0)) ∧ (Kd.V (Kd.int .i64) 3 w' w.heap.size (fun k_ => some k_ ≠ (s_.2.1 : Value).ownBlock ∧ some k_ ≠ (.slice (some aL) aH.length cP : Value).ownBlock ∧ some k_ ≠ (.slice a9 aV.length bA : Value).ownBlock ∧ some k_ ≠ (.slice (some a1) aA.length a2 : Value).ownBlock ∧ k_ ≠ aI ∧ k_ ≠ aO ∧ k_ ≠ aK ∧ k_ ≠ aG ∧ k_ ≠ s_.2.2) s_.1 dK) ∧ (Kd.R k53 53 w' w.heap.size (fun k_ => some k_ ≠ (.slice (some aL) aH.length cP : Value).ownBlock ∧ some k_ ≠ (.slice (some a1) aA.length a2 : Value).ownBlock ∧ k_ ≠ aO) s_.2.1 d8) ∧ (Kd.R k53 53 w' w.heap.size (fun k_ => some k_ ≠ (s_.2.1 : Value).ownBlock ∧ some k_ ≠ (.slice (some a1) aA.length a2 : Value).ownBlock ∧ k_ ≠ aO) (.slice (some aL) aH.length cP) aH) ∧ (Kd.V (Kd.int .i64) 3 w' w.heap.size (fun k_ => some k_ ≠ (s_.2.1 : Value).ownBlock ∧ some k_ ≠ (.slice (some aL) aH.length cP : Value).ownBlock ∧ some k_ ≠ (.slice a9 aV.length bA : Value).ownBlock ∧ some k_ ≠ (.slice (some a1) aA.length a2 : Value).ownBlock ∧ k_ ≠ aI ∧ k_ ≠ aO ∧ k_ ≠ aK ∧ k_ ≠ aG ∧ k_ ≠ s_.2.2) (.slice aY aS.length aZ) aS) ∧ (Kd.R (Kd.int .i64) 3 w' w.heap.size (fun _ => True) (.slice a9 aV.length bA) aV) ∧ (Kd.R k53 53 w' w.heap.size (fun k_ => some k_ ≠ (s_.2.1 : Value).ownBlock ∧ some k_ ≠ (.slice (some aL) aH.length cP : Value).ownBlock ∧ k_ ≠ aO) (.slice (some a1) aA.length a2) aA) ∧ (w'.heap[aI]? = some (.cells #[.int .i64 a8, .int .i64 aW, .slice aY aS.length aZ, .int .i64 aX, .int .i64 aU, .int .i64 bF, .int .i64 bG, .int .i64 bH, .int .i64 bI, .slice a9 aV.length bA, .slice (some a1) aA.length a2, .bool b5] 67 (0, 0))) ∧ (w'.heap[aO]? = some (.cells #[.int .i64 ((rd_T53 aA aB).f0), .int .i64 ((rd_T53 aA aB).f1), .int .i64 ((rd_T53 aA aB).f2), .int .i64 ((rd_T53 aA aB).f3), .int .i64 ((rd_T53 aA aB).f4), .int .i64 ((rd_T53 aA aB).f5), .slice none 0 0, .slice none 0 0] 53 (0, 0))) ∧ (w'.heap[aK]? = some (.cells #[.int .i64 bC, .int .i64 bV, .int .i64 bW, .int .i64 bX] 26 (0, 0))) ∧ (w'.heap[aG]? = some (.cells #[.int .i64 ((rd_T53 aA aB).f5), .int .i64 aW, .slice aY aS.length aZ, .int .i64 aX, .int .i64 aU] 24 (0, 0))) ∧ (w'.heap[s_.2.2]? = some (.cells #[.int .i64 0, .int .i64 0, .slice none 0 0, .int .i64 0, .int .i64 0] 24 (0, 0))) ∧ (w.heap.size ≤ s_.2.2) ∧ (w.heap.size ≤ s_.2.2) ∧ (aI ≠ s_.2.2) ∧ (s_.2.2 ≠ aI) ∧ (aO ≠ s_.2.2) ∧ (s_.2.2 ≠ aO) ∧ (aK ≠ s_.2.2) ∧ (s_.2.2 ≠ aK) ∧ (aG ≠ s_.2.2) ∧ (s_.2.2 ≠ aG) ∧ (Below w.heap.size w w')) ?_ ?_
                     rotate_left
                     ·intro hCont
                      refine two_ (i := 4) (j := 8) (Ni := some 99) (Nj := some 10) #[true, true, true, true, true, false, false, false, false, false, false] #[true, true, true, true, false, false, false, false, true, false, false] rfl rfl rfl rfl (two_of HT_.out (by kernel_rfl)) (by decide) (by decide) (fun K hK => ?_) (fun K hK => ?_)
                      ·skip
                       refine goes_ Try.func29 (by kernel_rfl) rfl #[.agg #[.int .i64 ((rd_T53 aA aB).f5), .int .i64 aW, .slice aY aS.length aZ, .int .i64 aX, .int .i64 aU], .agg #[.int .i64 ((rd_T53 aH 0).f0), .int .i64 ((rd_T53 aH 0).f1), .int .i64 ((rd_T53 aH 0).f2), .int .i64 ((rd_T53 aH 0).f3), .int .i64 ((rd_T53 aH 0).f4), .int .i64 ((rd_T53 aH 0).f5), .slice none 0 0, .slice none 0 0]] (by rfl) rfl rfl (by (try simp only [List.map_toArray, List.map_cons, List.map_nil]); first | done | rfl | (simp only [List.length_drop, List.length_take]; rfl)) ?_
                       with_reducible refine (commit_Learn.calls kj53 ((rd_T53 aA aB).f5) aW (fun k_ => (some k_ ≠ (.slice (some aL) aH.length cP : Value).ownBlock ∧ (some k_ ≠ (.slice a9 aV.length bA : Value).ownBlock ∧ (some k_ ≠ (.slice (some a1) aA.length a2 : Value).ownBlock ∧ (k_ ≠ aI ∧ (k_ ≠ aO ∧ (k_ ≠ aK ∧ k_ ≠ aG))))))) _ _ aS aX aU ((rd_T53 aH 0).f0) ((rd_T53 aH 0).f1) ((rd_T53 aH 0).f2) ((rd_T53 aH 0).f3) ((rd_T53 aH 0).f4) ((rd_T53 aH 0).f5) ((rd_T53 aH 0).f6) (.slice none 0 0) ((rd_T53 aH 0).f7) (.slice none 0 0) dF dX dK dY dG d8 _ ?side1 A72.out).mono ?_
                       (case side1 => exact aE.out)
                       rintro e w90 ⟨gB, dH, rfl, ho0, ho1, hb⟩
                       have d9 := (hb.cell (World.block_lt_of_cell? _ _ (hHeld.2.2.2.2.2.1))).trans (hHeld.2.2.2.2.2.1)
                       have eA := (hb.cell (World.block_lt_of_cell? _ _ (hHeld.2.2.2.2.2.2.1))).trans (hHeld.2.2.2.2.2.2.1)
                       have eB := (hb.cell (World.block_lt_of_cell? _ _ (hHeld.2.2.2.2.2.2.2.1))).trans (hHeld.2.2.2.2.2.2.2.1)
                       have eC := (hb.cell (World.block_lt_of_cell? _ _ (hHeld.2.2.2.2.2.2.2.2.1))).trans (hHeld.2.2.2.2.2.2.2.2.1)
                       have eD := (hb.cell (World.block_lt_of_cell? _ _ (hHeld.2.2.2.2.2.2.2.2.2.1))).trans (hHeld.2.2.2.2.2.2.2.2.2.1)
                       have dU := (hb.cell (World.block_lt_of_cell? _ _ (hHeld.2.2.2.2.2.2.2.2.2.2.1))).trans (hHeld.2.2.2.2.2.2.2.2.2.2.1)
                       have dV := (hb.cell (World.block_lt_of_cell? _ _ (hHeld.2.2.2.2.2.2.2.2.2.2.2.1))).trans (hHeld.2.2.2.2.2.2.2.2.2.2.2.1)
                       have dW := (hb.cell (World.block_lt_of_cell? _ _ (hHeld.2.2.2.2.2.2.2.2.2.2.2.2))).trans (hHeld.2.2.2.2.2.2.2.2.2.2.2.2)
                       refine ⟨_, rfl, ?_⟩
                       have n0_ := Aside0.mk (Kd.R_elder' (mR aQ.out) (Kd.R_base ho1) hb)
                       have n1_ := Aside0.mk (Kd.V_elder' (mV aE.out) (Kd.R_base ho1) hb)
                       have n2_ := tR aF hb
                       have n3_ := Aside0.mk (Kd.R_elder' (mR aD.out) (Kd.R_base ho1) hb)
                       have n4_ := Aside0.mk (Kd.V_lower (Kd.V_mono (ok' := fun k_ => some k_ ≠ (dH : Value).ownBlock ∧ some k_ ≠ (.slice (some aL) aH.length cP : Value).ownBlock ∧ some k_ ≠ (.slice a9 aV.length bA : Value).ownBlock ∧ some k_ ≠ (.slice (some a1) aA.length a2 : Value).ownBlock ∧ k_ ≠ aI ∧ k_ ≠ aO ∧ k_ ≠ aK ∧ k_ ≠ aG) ho0 (fun k_ hk_ => ⟨hk_.2, Or.elim hk_.1 (fun hs_ => hs_.1) (fun hn_ => (Kd.fresh' (Kd.R_lt (mR aQ.out)) k_ hn_)), Or.elim hk_.1 (fun hs_ => hs_.2.1) (fun hn_ => (Kd.fresh' (Kd.R_lt (mR aF.out)) k_ hn_)), Or.elim hk_.1 (fun hs_ => hs_.2.2.1) (fun hn_ => (Kd.fresh' (Kd.R_lt (mR aD.out)) k_ hn_)), Or.elim hk_.1 (fun hs_ => hs_.2.2.2.1) (fun hn_ => (Kd.freshB (mK aC.out) k_ hn_)), Or.elim hk_.1 (fun hs_ => hs_.2.2.2.2.1) (fun hn_ => (Kd.freshB (mK aJ.out) k_ hn_)), Or.elim hk_.1 (fun hs_ => hs_.2.2.2.2.2.1) (fun hn_ => (Kd.freshB (mK aR.out) k_ hn_)), Or.elim hk_.1 (fun hs_ => hs_.2.2.2.2.2.2) (fun hn_ => (Kd.freshB (mK aT.out) k_ hn_))⟩)) (kZ HB.out))
                       have n5_ := Aside0.mk (Kd.R_lower (Kd.R_newB (Kd.R_new' (Kd.R_new' (Kd.R_mono (ok' := fun k_ => True) ho1 (fun _ hk_ => trivial)) (Kd.R_lt (mR aQ.out))) (Kd.R_lt (mR aD.out))) (mK aJ.out)) (kZ HB.out))
                       have n6_ := tK aC hb
                       have n7_ := tK aJ hb
                       have n8_ := tK aR hb
                       have n9_ := tK aT hb
                       have n10_ := tB HB hb
                       clear aQ
                       clear aE
                       clear aF
                       clear aD
                       clear aC
                       clear aJ
                       clear aR
                       clear aT
                       clear HB
                       have aQ := n0_
                       have aE := n1_
                       have aF := n2_
                       have aD := n3_
                       have dI := n4_
                       have dJ := n5_
                       have aC := n6_
                       have aJ := n7_
                       have aR := n8_
                       have aT := n9_
                       have HB := n10_
                       clear n0_ n1_ n2_ n3_ n4_ n5_ n6_ n7_ n8_ n9_ n10_
                       (try clear hb)
                       (try clear hb2)
                       (try clear hk)
                       (try clear hi)
                       (try clear ho0)
                       (try clear ho1)
                       refine hK.out _ _ (ct5 aT.out ⟨d9, eA, eB, eC, eD, dU, dV, dW⟩) (fun hHeld => ?_)
                       clear hK K
                       refine norm_ (a' := ?_) ?_ ?_
                       rotate_left
                       ·show Act.put _ (some 99) _ = _
                        simp only [Act.put, sA, sB, sC, i64_w, i32_w]
                        rfl
                       refine pure_ (i := 5) (N := some 94) (v := ?_) (a' := ?_) (bs 11 63) rfl rfl (any_of HT_.out (by kernel_rfl)) (fun _ _ _ h => h) (Or.inl ⟨by rfl, ?_⟩) ?_ ?_
                       rotate_left
                       ·intro w'
                        go_simp
                        with_reducible rfl
                       rotate_left
                       ·simp only [Act.put, sA, sB, sC, i64_w, i32_w]
                        rfl
                       refine pure_ (i := 6) (N := some 100) (v := ?_) (a' := ?_) (bs 11 127) rfl rfl (any_of HT_.out (by kernel_rfl)) (fun _ _ _ h => h) (Or.inl ⟨by rfl, ?_⟩) ?_ ?_
                       rotate_left
                       ·intro w'
                        go_simp
                        with_reducible rfl
                       rotate_left
                       ·simp only [Act.put, sA, sB, sC, i64_w, i32_w]
                        rfl
                       refine pure_ (i := 7) (N := some 101) (v := ?_) (a' := ?_) (bs 11 255) rfl rfl (any_of HT_.out (by kernel_rfl)) (fun _ _ _ h => h) (Or.inl ⟨by rfl, ?_⟩) ?_ ?_
                       rotate_left
                       ·intro w'
                        go_simp
                        with_reducible rfl
                       rotate_left
                       ·simp only [Act.put, sA, sB, sC, i64_w, i32_w]
                        rfl
                       refine one_ (i := 8) (N := some 10) (bs 11 511) rfl rfl (one_of HT_.out (by kernel_rfl)) (by decide) (fun K hK => ?_)
                       refine box_step ?hg (N := 10) ?hd (cs := #[.int .i64 0, .int .i64 0, .slice none 0 0, .int .i64 0, .int .i64 0]) (t := 24) ?hr ?_; (case hd => rfl); (case hg => rfl); (case hr => first | (go_simp; done) | (go_simp; rfl))
                       intro a4 hg w91 hbox hb
                       have d9 := (hb.cell (World.block_lt_of_cell? _ _ (hHeld.2.2.2.2.2.1))).trans (hHeld.2.2.2.2.2.1)
                       have eA := (hb.cell (World.block_lt_of_cell? _ _ (hHeld.2.2.2.2.2.2.1))).trans (hHeld.2.2.2.2.2.2.1)
                       have eB := (hb.cell (World.block_lt_of_cell? _ _ (hHeld.2.2.2.2.2.2.2.1))).trans (hHeld.2.2.2.2.2.2.2.1)
                       have eC := (hb.cell (World.block_lt_of_cell? _ _ (hHeld.2.2.2.2.2.2.2.2.1))).trans (hHeld.2.2.2.2.2.2.2.2.1)
                       have eD := (hb.cell (World.block_lt_of_cell? _ _ (hHeld.2.2.2.2.2.2.2.2.2.1))).trans (hHeld.2.2.2.2.2.2.2.2.2.1)
                       have dU := (hb.cell (World.block_lt_of_cell? _ _ (hHeld.2.2.2.2.2.2.2.2.2.2.1))).trans (hHeld.2.2.2.2.2.2.2.2.2.2.1)
                       have dV := (hb.cell (World.block_lt_of_cell? _ _ (hHeld.2.2.2.2.2.2.2.2.2.2.2.1))).trans (hHeld.2.2.2.2.2.2.2.2.2.2.2.1)
                       have dW := (hb.cell (World.block_lt_of_cell? _ _ (hHeld.2.2.2.2.2.2.2.2.2.2.2.2))).trans (hHeld.2.2.2.2.2.2.2.2.2.2.2.2)
                       have n0_ := tR aQ hb
                       have n1_ := Aside0.mk (Kd.V_below (Kd.V_elderB (mV aE.out) a4 (Nat.le_of_eq hg.symm)) hb)
                       have n2_ := tR aF hb
                       have n3_ := tR aD hb
                       have n4_ := Aside0.mk (Kd.V_below (Kd.V_elderB (mV dI.out) a4 (Nat.le_of_eq hg.symm)) hb)
                       have n5_ := tR dJ hb
                       have n6_ := tK aC hb
                       have n7_ := tK aJ hb
                       have n8_ := tK aR hb
                       have n9_ := tK aT hb
                       have n10_ := tB HB hb
                       have n11_ := Aside0.mk (hbox)
                       have n12_ := gZ HB hg
                       have n13_ := gZ HB hg
                       have n14_ := nL aC hg
                       have n15_ := nG aC hg
                       have n16_ := nL aJ hg
                       have n17_ := nG aJ hg
                       have n18_ := nL aR hg
                       have n19_ := nG aR hg
                       have n20_ := nL aT hg
                       have n21_ := nG aT hg
                       clear aQ
                       clear aE
                       clear aF
                       clear aD
                       clear dI
                       clear dJ
                       clear aC
                       clear aJ
                       clear aR
                       clear aT
                       clear HB
                       have aQ := n0_
                       have aE := n1_
                       have aF := n2_
                       have aD := n3_
                       have dI := n4_
                       have dJ := n5_
                       have aC := n6_
                       have aJ := n7_
                       have aR := n8_
                       have aT := n9_
                       have HB := n10_
                       have aN := n11_
                       have fJ := n12_
                       have cQ := n13_
                       have a6 := n14_
                       have bL := n15_
                       have bM := n16_
                       have bN := n17_
                       have bO := n18_
                       have bP := n19_
                       have a7 := n20_
                       have bQ := n21_
                       clear n0_ n1_ n2_ n3_ n4_ n5_ n6_ n7_ n8_ n9_ n10_ n11_ n12_ n13_ n14_ n15_ n16_ n17_ n18_ n19_ n20_ n21_
                       clear hb hbox hg
                       refine hK.out _ _ (ct5 aT.out ⟨d9, eA, eB, eC, eD, dU, dV, dW⟩) (fun hHeld => ?_)
                       clear hK K
                       refine norm_ (a' := ?_) ?_ ?_
                       rotate_left
                       ·show Act.put _ (some 10) _ = _
                        simp only [Act.put, sA, sB, sC, i64_w, i32_w]
                        rfl
                       exact norm_ (by simp only [putAll, Act.put, List.setIfInBounds_toArray, List.set_cons_zero, List.set_cons_succ]) (hCont (gB, dH, a4) _ ⟨hHeld, (mV (Kd.V_mono dI.out (fun _ hk => ⟨hk.1.1, ⟨hk.1.2.1, ⟨hk.1.2.2.1, ⟨hk.1.2.2.2.1, ⟨hk.1.2.2.2.2.1, ⟨hk.1.2.2.2.2.2.1, ⟨hk.1.2.2.2.2.2.2.1, ⟨hk.1.2.2.2.2.2.2.2, hk.2⟩⟩⟩⟩⟩⟩⟩⟩))), (mR (Kd.R_mono dJ.out (fun _ hk => ⟨hk.1.1.2, ⟨hk.1.2, hk.2⟩⟩))), (mR (Kd.R_mono aQ.out (fun _ hk => ⟨hk.2, ⟨hk.1.1, hk.1.2⟩⟩))), (mV (Kd.V_mono aE.out (fun _ hk => ⟨hk.1.2, ⟨hk.1.1.1, ⟨hk.1.1.2.1, ⟨hk.1.1.2.2.1, ⟨hk.1.1.2.2.2.1, ⟨hk.1.1.2.2.2.2.1, ⟨hk.1.1.2.2.2.2.2.1, ⟨hk.1.1.2.2.2.2.2.2, hk.2⟩⟩⟩⟩⟩⟩⟩⟩))), (mR aF.out), (mR (Kd.R_mono aD.out (fun _ hk => ⟨hk.2, ⟨hk.1.1, hk.1.2⟩⟩))), (mK aC.out), (mK aJ.out), (mK aR.out), (mK aT.out), (mK aN.out), fJ.out, cQ.out, a6.out, bL.out, bM.out, bN.out, bO.out, bP.out, a7.out, bQ.out, (by haveI := Ge.mk cQ.out; exact kB HB.out)⟩)
                      ·skip
                       refine box_step ?hg (N := 10) ?hd (cs := #[.int .i64 0, .int .i64 0, .slice none 0 0, .int .i64 0, .int .i64 0]) (t := 24) ?hr ?_; (case hd => rfl); (case hg => rfl); (case hr => first | (go_simp; done) | (go_simp; rfl))
                       intro a4 hg w90 hbox hb
                       have d9 := (hb.cell (World.block_lt_of_cell? _ _ (hHeld.2.2.2.2.2.1))).trans (hHeld.2.2.2.2.2.1)
                       have eA := (hb.cell (World.block_lt_of_cell? _ _ (hHeld.2.2.2.2.2.2.1))).trans (hHeld.2.2.2.2.2.2.1)
                       have eB := (hb.cell (World.block_lt_of_cell? _ _ (hHeld.2.2.2.2.2.2.2.1))).trans (hHeld.2.2.2.2.2.2.2.1)
                       have eC := (hb.cell (World.block_lt_of_cell? _ _ (hHeld.2.2.2.2.2.2.2.2.1))).trans (hHeld.2.2.2.2.2.2.2.2.1)
                       have eD := (hb.cell (World.block_lt_of_cell? _ _ (hHeld.2.2.2.2.2.2.2.2.2.1))).trans (hHeld.2.2.2.2.2.2.2.2.2.1)
                       have dU := (hb.cell (World.block_lt_of_cell? _ _ (hHeld.2.2.2.2.2.2.2.2.2.2.1))).trans (hHeld.2.2.2.2.2.2.2.2.2.2.1)
                       have dV := (hb.cell (World.block_lt_of_cell? _ _ (hHeld.2.2.2.2.2.2.2.2.2.2.2.1))).trans (hHeld.2.2.2.2.2.2.2.2.2.2.2.1)
                       have dW := (hb.cell (World.block_lt_of_cell? _ _ (hHeld.2.2.2.2.2.2.2.2.2.2.2.2))).trans (hHeld.2.2.2.2.2.2.2.2.2.2.2.2)
                       have n0_ := tR aQ hb
                       have n1_ := Aside0.mk (Kd.V_below (Kd.V_elderB (mV aE.out) a4 (Nat.le_of_eq hg.symm)) hb)
                       have n2_ := tR aF hb
                       have n3_ := tR aD hb
                       have n4_ := tK aC hb
                       have n5_ := tK aJ hb
                       have n6_ := tK aR hb
                       have n7_ := tK aT hb
                       have n8_ := tB HB hb
                       have n9_ := Aside0.mk (hbox)
                       have n10_ := gZ HB hg
                       have n11_ := gZ HB hg
                       have n12_ := nL aC hg
                       have n13_ := nG aC hg
                       have n14_ := nL aJ hg
                       have n15_ := nG aJ hg
                       have n16_ := nL aR hg
                       have n17_ := nG aR hg
                       have n18_ := nL aT hg
                       have n19_ := nG aT hg
                       clear aQ
                       clear aE
                       clear aF
                       clear aD
                       clear aC
                       clear aJ
                       clear aR
                       clear aT
                       clear HB
                       have aQ := n0_
                       have aE := n1_
                       have aF := n2_
                       have aD := n3_
                       have aC := n4_
                       have aJ := n5_
                       have aR := n6_
                       have aT := n7_
                       have HB := n8_
                       have aN := n9_
                       have fJ := n10_
                       have cQ := n11_
                       have a6 := n12_
                       have bL := n13_
                       have bM := n14_
                       have bN := n15_
                       have bO := n16_
                       have bP := n17_
                       have a7 := n18_
                       have bQ := n19_
                       clear n0_ n1_ n2_ n3_ n4_ n5_ n6_ n7_ n8_ n9_ n10_ n11_ n12_ n13_ n14_ n15_ n16_ n17_ n18_ n19_
                       clear hb hbox hg
                       refine hK.out _ _ (ct5 aT.out ⟨d9, eA, eB, eC, eD, dU, dV, dW⟩) (fun hHeld => ?_)
                       clear hK K
                       refine norm_ (a' := ?_) ?_ ?_
                       rotate_left
                       ·show Act.put _ (some 10) _ = _
                        simp only [Act.put, sA, sB, sC, i64_w, i32_w]
                        rfl
                       refine one_ (i := 4) (N := some 99) (bs 11 287) rfl rfl (one_of HT_.out (by kernel_rfl)) (by decide) (fun K hK => ?_)
                       refine goes_ Try.func29 (by kernel_rfl) rfl #[.agg #[.int .i64 ((rd_T53 aA aB).f5), .int .i64 aW, .slice aY aS.length aZ, .int .i64 aX, .int .i64 aU], .agg #[.int .i64 ((rd_T53 aH 0).f0), .int .i64 ((rd_T53 aH 0).f1), .int .i64 ((rd_T53 aH 0).f2), .int .i64 ((rd_T53 aH 0).f3), .int .i64 ((rd_T53 aH 0).f4), .int .i64 ((rd_T53 aH 0).f5), .slice none 0 0, .slice none 0 0]] (by rfl) rfl rfl (by (try simp only [List.map_toArray, List.map_cons, List.map_nil]); first | done | rfl | (simp only [List.length_drop, List.length_take]; rfl)) ?_
                       with_reducible refine (commit_Learn.calls kj53 ((rd_T53 aA aB).f5) aW (fun k_ => ((some k_ ≠ (.slice (some aL) aH.length cP : Value).ownBlock ∧ (some k_ ≠ (.slice a9 aV.length bA : Value).ownBlock ∧ (some k_ ≠ (.slice (some a1) aA.length a2 : Value).ownBlock ∧ (k_ ≠ aI ∧ (k_ ≠ aO ∧ (k_ ≠ aK ∧ k_ ≠ aG)))))) ∧ k_ ≠ a4)) _ _ aS aX aU ((rd_T53 aH 0).f0) ((rd_T53 aH 0).f1) ((rd_T53 aH 0).f2) ((rd_T53 aH 0).f3) ((rd_T53 aH 0).f4) ((rd_T53 aH 0).f5) ((rd_T53 aH 0).f6) (.slice none 0 0) ((rd_T53 aH 0).f7) (.slice none 0 0) dF dX dK dY dG d8 _ ?side1 A72.out).mono ?_
                       (case side1 => exact aE.out)
                       rintro e w91 ⟨gB, dH, rfl, ho0, ho1, hb⟩
                       have d9 := (hb.cell (World.block_lt_of_cell? _ _ (hHeld.2.2.2.2.2.1))).trans (hHeld.2.2.2.2.2.1)
                       have eA := (hb.cell (World.block_lt_of_cell? _ _ (hHeld.2.2.2.2.2.2.1))).trans (hHeld.2.2.2.2.2.2.1)
                       have eB := (hb.cell (World.block_lt_of_cell? _ _ (hHeld.2.2.2.2.2.2.2.1))).trans (hHeld.2.2.2.2.2.2.2.1)
                       have eC := (hb.cell (World.block_lt_of_cell? _ _ (hHeld.2.2.2.2.2.2.2.2.1))).trans (hHeld.2.2.2.2.2.2.2.2.1)
                       have eD := (hb.cell (World.block_lt_of_cell? _ _ (hHeld.2.2.2.2.2.2.2.2.2.1))).trans (hHeld.2.2.2.2.2.2.2.2.2.1)
                       have dU := (hb.cell (World.block_lt_of_cell? _ _ (hHeld.2.2.2.2.2.2.2.2.2.2.1))).trans (hHeld.2.2.2.2.2.2.2.2.2.2.1)
                       have dV := (hb.cell (World.block_lt_of_cell? _ _ (hHeld.2.2.2.2.2.2.2.2.2.2.2.1))).trans (hHeld.2.2.2.2.2.2.2.2.2.2.2.1)
                       have dW := (hb.cell (World.block_lt_of_cell? _ _ (hHeld.2.2.2.2.2.2.2.2.2.2.2.2))).trans (hHeld.2.2.2.2.2.2.2.2.2.2.2.2)
                       refine ⟨_, rfl, ?_⟩
                       have n0_ := Aside0.mk (Kd.R_elder' (mR aQ.out) (Kd.R_base ho1) hb)
                       have n1_ := Aside0.mk (Kd.V_elder' (mV aE.out) (Kd.R_base ho1) hb)
                       have n2_ := tR aF hb
                       have n3_ := Aside0.mk (Kd.R_elder' (mR aD.out) (Kd.R_base ho1) hb)
                       have n4_ := Aside0.mk (Kd.V_lower (Kd.V_mono (ok' := fun k_ => some k_ ≠ (dH : Value).ownBlock ∧ some k_ ≠ (.slice (some aL) aH.length cP : Value).ownBlock ∧ some k_ ≠ (.slice a9 aV.length bA : Value).ownBlock ∧ some k_ ≠ (.slice (some a1) aA.length a2 : Value).ownBlock ∧ k_ ≠ aI ∧ k_ ≠ aO ∧ k_ ≠ aK ∧ k_ ≠ aG ∧ k_ ≠ a4) ho0 (fun k_ hk_ => ⟨hk_.2, Or.elim hk_.1 (fun hs_ => hs_.1.1) (fun hn_ => (Kd.fresh' (Kd.R_lt (mR aQ.out)) k_ hn_)), Or.elim hk_.1 (fun hs_ => hs_.1.2.1) (fun hn_ => (Kd.fresh' (Kd.R_lt (mR aF.out)) k_ hn_)), Or.elim hk_.1 (fun hs_ => hs_.1.2.2.1) (fun hn_ => (Kd.fresh' (Kd.R_lt (mR aD.out)) k_ hn_)), Or.elim hk_.1 (fun hs_ => hs_.1.2.2.2.1) (fun hn_ => (Kd.freshB (mK aC.out) k_ hn_)), Or.elim hk_.1 (fun hs_ => hs_.1.2.2.2.2.1) (fun hn_ => (Kd.freshB (mK aJ.out) k_ hn_)), Or.elim hk_.1 (fun hs_ => hs_.1.2.2.2.2.2.1) (fun hn_ => (Kd.freshB (mK aR.out) k_ hn_)), Or.elim hk_.1 (fun hs_ => hs_.1.2.2.2.2.2.2) (fun hn_ => (Kd.freshB (mK aT.out) k_ hn_)), Or.elim hk_.1 (fun hs_ => hs_.2) (fun hn_ => (Kd.freshB (mK aN.out) k_ hn_))⟩)) ((by haveI := Ge.mk cQ.out; exact kZ HB.out)))
                       have n5_ := Aside0.mk (Kd.R_lower (Kd.R_newB (Kd.R_new' (Kd.R_new' (Kd.R_mono (ok' := fun k_ => True) ho1 (fun _ hk_ => trivial)) (Kd.R_lt (mR aQ.out))) (Kd.R_lt (mR aD.out))) (mK aJ.out)) ((by haveI := Ge.mk cQ.out; exact kZ HB.out)))
                       have n6_ := tK aC hb
                       have n7_ := tK aJ hb
                       have n8_ := tK aR hb
                       have n9_ := tK aT hb
                       have n10_ := tK aN hb
                       have n11_ := Aside0.mk (below_step (by haveI := Ge.mk cQ.out; exact kB HB.out) hb)
                       clear aQ
                       clear aE
                       clear aF
                       clear aD
                       clear aC
                       clear aJ
                       clear aR
                       clear aT
                       clear aN
                       clear HB
                       have aQ := n0_
                       have aE := n1_
                       have aF := n2_
                       have aD := n3_
                       have dI := n4_
                       have dJ := n5_
                       have aC := n6_
                       have aJ := n7_
                       have aR := n8_
                       have aT := n9_
                       have aN := n10_
                       have HB := n11_
                       clear n0_ n1_ n2_ n3_ n4_ n5_ n6_ n7_ n8_ n9_ n10_ n11_
                       (try clear hb)
                       (try clear hb2)
                       (try clear hk)
                       (try clear hi)
                       (try clear ho0)
                       (try clear ho1)
                       refine hK.out _ _ (ct5 aT.out ⟨d9, eA, eB, eC, eD, dU, dV, dW⟩) (fun hHeld => ?_)
                       clear hK K
                       refine norm_ (a' := ?_) ?_ ?_
                       rotate_left
                       ·show Act.put _ (some 99) _ = _
                        simp only [Act.put, sA, sB, sC, i64_w, i32_w]
                        rfl
                       refine pure_ (i := 5) (N := some 94) (v := ?_) (a' := ?_) (bs 11 319) rfl rfl (any_of HT_.out (by kernel_rfl)) (fun _ _ _ h => h) (Or.inl ⟨by rfl, ?_⟩) ?_ ?_
                       rotate_left
                       ·intro w'
                        go_simp
                        with_reducible rfl
                       rotate_left
                       ·simp only [Act.put, sA, sB, sC, i64_w, i32_w]
                        rfl
                       refine pure_ (i := 6) (N := some 100) (v := ?_) (a' := ?_) (bs 11 383) rfl rfl (any_of HT_.out (by kernel_rfl)) (fun _ _ _ h => h) (Or.inl ⟨by rfl, ?_⟩) ?_ ?_
                       rotate_left
                       ·intro w'
                        go_simp
                        with_reducible rfl
                       rotate_left
                       ·simp only [Act.put, sA, sB, sC, i64_w, i32_w]
                        rfl
                       refine pure_ (i := 7) (N := some 101) (v := ?_) (a' := ?_) (bs 11 511) rfl rfl (any_of HT_.out (by kernel_rfl)) (fun _ _ _ h => h) (Or.inl ⟨by rfl, ?_⟩) ?_ ?_
                       rotate_left
                       ·intro w'
                        go_simp
                        with_reducible rfl
                       rotate_left
                       ·simp only [Act.put, sA, sB, sC, i64_w, i32_w]
                        rfl
                       exact norm_ (by simp only [putAll, Act.put, List.setIfInBounds_toArray, List.set_cons_zero, List.set_cons_succ]) (hCont (gB, dH, a4) _ ⟨hHeld, (mV dI.out), (mR (Kd.R_mono dJ.out (fun _ hk => ⟨hk.1.1.2, ⟨hk.1.2, hk.2⟩⟩))), (mR (Kd.R_mono aQ.out (fun _ hk => ⟨hk.2, ⟨hk.1.1, hk.1.2⟩⟩))), (mV (Kd.V_mono aE.out (fun _ hk => ⟨hk.2, ⟨hk.1.1.1, ⟨hk.1.1.2.1, ⟨hk.1.1.2.2.1, ⟨hk.1.1.2.2.2.1, ⟨hk.1.1.2.2.2.2.1, ⟨hk.1.1.2.2.2.2.2.1, ⟨hk.1.1.2.2.2.2.2.2, hk.1.2⟩⟩⟩⟩⟩⟩⟩⟩))), (mR aF.out), (mR (Kd.R_mono aD.out (fun _ hk => ⟨hk.2, ⟨hk.1.1, hk.1.2⟩⟩))), (mK aC.out), (mK aJ.out), (mK aR.out), (mK aT.out), (mK aN.out), fJ.out, cQ.out, a6.out, bL.out, bM.out, bN.out, bO.out, bP.out, a7.out, bQ.out, (by haveI := Ge.mk cQ.out; exact kB HB.out)⟩)
                     rintro ⟨gB, dH, a4⟩ w92 ⟨hS_, h0_, h1_, h2_, h3_, h4_, h5_, h6_, h7_, h8_, h9_, h10_, h11_, h12_, h13_, h14_, h15_, h16_, h17_, h18_, h19_, h20_, h21_⟩
                     have n0_ : Aside0 (Kd.V (Kd.int .i64) 3 w92 w.heap.size (fun k_ => some k_ ≠ (dH : Value).ownBlock ∧ some k_ ≠ (.slice (some aL) aH.length cP : Value).ownBlock ∧ some k_ ≠ (.slice a9 aV.length bA : Value).ownBlock ∧ some k_ ≠ (.slice (some a1) aA.length a2 : Value).ownBlock ∧ k_ ≠ aI ∧ k_ ≠ aO ∧ k_ ≠ aK ∧ k_ ≠ aG ∧ k_ ≠ a4) gB dK) := ⟨h0_⟩
                     have n1_ : Aside0 (Kd.R k53 53 w92 w.heap.size (fun k_ => some k_ ≠ (.slice (some aL) aH.length cP : Value).ownBlock ∧ some k_ ≠ (.slice (some a1) aA.length a2 : Value).ownBlock ∧ k_ ≠ aO) dH d8) := ⟨h1_⟩
                     have n2_ : Aside0 (Kd.R k53 53 w92 w.heap.size (fun k_ => some k_ ≠ (dH : Value).ownBlock ∧ some k_ ≠ (.slice (some a1) aA.length a2 : Value).ownBlock ∧ k_ ≠ aO) (.slice (some aL) aH.length cP) aH) := ⟨h2_⟩
                     have n3_ : Aside0 (Kd.V (Kd.int .i64) 3 w92 w.heap.size (fun k_ => some k_ ≠ (dH : Value).ownBlock ∧ some k_ ≠ (.slice (some aL) aH.length cP : Value).ownBlock ∧ some k_ ≠ (.slice a9 aV.length bA : Value).ownBlock ∧ some k_ ≠ (.slice (some a1) aA.length a2 : Value).ownBlock ∧ k_ ≠ aI ∧ k_ ≠ aO ∧ k_ ≠ aK ∧ k_ ≠ aG ∧ k_ ≠ a4) (.slice aY aS.length aZ) aS) := ⟨h3_⟩
                     have n4_ : Aside0 (Kd.R (Kd.int .i64) 3 w92 w.heap.size (fun _ => True) (.slice a9 aV.length bA) aV) := ⟨h4_⟩
                     have n5_ : Aside0 (Kd.R k53 53 w92 w.heap.size (fun k_ => some k_ ≠ (dH : Value).ownBlock ∧ some k_ ≠ (.slice (some aL) aH.length cP : Value).ownBlock ∧ k_ ≠ aO) (.slice (some a1) aA.length a2) aA) := ⟨h5_⟩
                     have n6_ : Aside0 (w92.heap[aI]? = some (.cells #[.int .i64 a8, .int .i64 aW, .slice aY aS.length aZ, .int .i64 aX, .int .i64 aU, .int .i64 bF, .int .i64 bG, .int .i64 bH, .int .i64 bI, .slice a9 aV.length bA, .slice (some a1) aA.length a2, .bool b5] 67 (0, 0))) := ⟨h6_⟩
                     have n7_ : Aside0 (w92.heap[aO]? = some (.cells #[.int .i64 ((rd_T53 aA aB).f0), .int .i64 ((rd_T53 aA aB).f1), .int .i64 ((rd_T53 aA aB).f2), .int .i64 ((rd_T53 aA aB).f3), .int .i64 ((rd_T53 aA aB).f4), .int .i64 ((rd_T53 aA aB).f5), .slice none 0 0, .slice none 0 0] 53 (0, 0))) := ⟨h7_⟩
                     have n8_ : Aside0 (w92.heap[aK]? = some (.cells #[.int .i64 bC, .int .i64 bV, .int .i64 bW, .int .i64 bX] 26 (0, 0))) := ⟨h8_⟩
                     have n9_ : Aside0 (w92.heap[aG]? = some (.cells #[.int .i64 ((rd_T53 aA aB).f5), .int .i64 aW, .slice aY aS.length aZ, .int .i64 aX, .int .i64 aU] 24 (0, 0))) := ⟨h9_⟩
                     have n10_ : Aside0 (w92.heap[a4]? = some (.cells #[.int .i64 0, .int .i64 0, .slice none 0 0, .int .i64 0, .int .i64 0] 24 (0, 0))) := ⟨h10_⟩
                     have n11_ : Aside0 (w.heap.size ≤ a4) := ⟨h11_⟩
                     have n12_ : Aside0 (w.heap.size ≤ a4) := ⟨h12_⟩
                     have n13_ : Aside0 (aI ≠ a4) := ⟨h13_⟩
                     have n14_ : Aside0 (a4 ≠ aI) := ⟨h14_⟩
                     have n15_ : Aside0 (aO ≠ a4) := ⟨h15_⟩
                     have n16_ : Aside0 (a4 ≠ aO) := ⟨h16_⟩
                     have n17_ : Aside0 (aK ≠ a4) := ⟨h17_⟩
                     have n18_ : Aside0 (a4 ≠ aK) := ⟨h18_⟩
                     have n19_ : Aside0 (aG ≠ a4) := ⟨h19_⟩
                     have n20_ : Aside0 (a4 ≠ aG) := ⟨h20_⟩
                     have n21_ : Aside0 (Below w.heap.size w w92) := ⟨h21_⟩
                     clear aQ
                     clear aE
                     clear aF
                     clear aD
                     clear aC
                     clear aJ
                     clear aR
                     clear aT
                     clear HB
                     clear h0_ h1_ h2_ h3_ h4_ h5_ h6_ h7_ h8_ h9_ h10_ h11_ h12_ h13_ h14_ h15_ h16_ h17_ h18_ h19_ h20_ h21_
                     have dI := n0_
                     have dJ := n1_
                     have aQ := n2_
                     have aE := n3_
                     have aF := n4_
                     have aD := n5_
                     have aC := n6_
                     have aJ := n7_
                     have aR := n8_
                     have aT := n9_
                     have aN := n10_
                     have fJ := n11_
                     have cQ := n12_
                     have a6 := n13_
                     have bL := n14_
                     have bM := n15_
                     have bN := n16_
                     have bO := n17_
                     have bP := n18_
                     have a7 := n19_
                     have bQ := n20_
                     have HB := n21_
                     clear n0_ n1_ n2_ n3_ n4_ n5_ n6_ n7_ n8_ n9_ n10_ n11_ n12_ n13_ n14_ n15_ n16_ n17_ n18_ n19_ n20_ n21_
                     have hHeld : w92.cell? ⟨aG, 0, none⟩ = some (.int .i64 ((rd_T53 aA aB).f5)) ∧ w92.cell? ⟨aG, 1, none⟩ = some (.int .i64 aW) ∧ w92.cell? ⟨aG, 2, none⟩ = some (.slice aY aS.length aZ) ∧ w92.cell? ⟨aG, 3, none⟩ = some (.int .i64 aX) ∧ w92.cell? ⟨aG, 4, none⟩ = some (.int .i64 aU) ∧ w92.cell? aL = some (.int .i64 ((rd_T53 aH 0).f0)) ∧ w92.cell? ⟨aL.block, aL.off + 1, none⟩ = some (.int .i64 ((rd_T53 aH 0).f1)) ∧ w92.cell? ⟨aL.block, aL.off + 2, none⟩ = some (.int .i64 ((rd_T53 aH 0).f2)) ∧ w92.cell? ⟨aL.block, aL.off + 3, none⟩ = some (.int .i64 ((rd_T53 aH 0).f3)) ∧ w92.cell? ⟨aL.block, aL.off + 4, none⟩ = some (.int .i64 ((rd_T53 aH 0).f4)) ∧ w92.cell? ⟨aL.block, aL.off + 5, none⟩ = some (.int .i64 ((rd_T53 aH 0).f5)) ∧ w92.cell? ⟨aL.block, aL.off + 6, none⟩ = some (.slice none 0 0) ∧ w92.cell? ⟨aL.block, aL.off + 7, none⟩ = some (.slice none 0 0) := hS_
                     obtain ⟨kF, kG, mN⟩ := Kd.V_slice dI.out
                     (first | subst mN | (injection mN with f1_ f2_ f3_; have f4_ := f1_.symm; have f5_ := f3_.symm; clear f1_ f2_ f3_; subst f4_; subst f5_))
                     refine norm_ (a' := ?_) ?_ ?_
                     rotate_left
                     ·simp only [putAll, Act.put, List.setIfInBounds_toArray, List.set_cons_zero, List.set_cons_succ]
                      rfl
                     refine one_ (i := 9) (N := none) (bs 11 1023) rfl rfl (one_of HT_.out (by kernel_rfl)) (by decide) (fun K hK => ?_)
                     have hs93 : w92.cell? ⟨a4, 0, none⟩ = some (.int .i64 0) := (blk_cell aN.out 0).trans rfl
                     have hfs93 := blk_frozen aN.out 0
                     have hns93_0 := a6.out
                     have hns93_1 := bM.out
                     have hns93_2 := bO.out
                     have hns93_3 := a7.out
                     have hms93_0 := bL.out
                     have hms93_1 := bN.out
                     have hms93_2 := bP.out
                     have hms93_3 := bQ.out
                     have hs94 : w92.cell? ⟨a4, 1, none⟩ = some (.int .i64 0) := (blk_cell aN.out 1).trans rfl
                     have hfs94 := blk_frozen aN.out 1
                     have hns94_0 := a6.out
                     have hns94_1 := bM.out
                     have hns94_2 := bO.out
                     have hns94_3 := a7.out
                     have hms94_0 := bL.out
                     have hms94_1 := bN.out
                     have hms94_2 := bP.out
                     have hms94_3 := bQ.out
                     have hs96 : w92.cell? ⟨a4, 2, none⟩ = some (.slice none 0 0) := (blk_cell aN.out 2).trans rfl
                     have hfs96 := blk_frozen aN.out 2
                     have hns96_0 := a6.out
                     have hns96_1 := bM.out
                     have hns96_2 := bO.out
                     have hns96_3 := a7.out
                     have hms96_0 := bL.out
                     have hms96_1 := bN.out
                     have hms96_2 := bP.out
                     have hms96_3 := bQ.out
                     have hs97 : w92.cell? ⟨a4, 3, none⟩ = some (.int .i64 0) := (blk_cell aN.out 3).trans rfl
                     have hfs97 := blk_frozen aN.out 3
                     have hns97_0 := a6.out
                     have hns97_1 := bM.out
                     have hns97_2 := bO.out
                     have hns97_3 := a7.out
                     have hms97_0 := bL.out
                     have hms97_1 := bN.out
                     have hms97_2 := bP.out
                     have hms97_3 := bQ.out
                     have hs98 : w92.cell? ⟨a4, 4, none⟩ = some (.int .i64 0) := (blk_cell aN.out 4).trans rfl
                     have hfs98 := blk_frozen aN.out 4
                     have hns98_0 := a6.out
                     have hns98_1 := bM.out
                     have hns98_2 := bO.out
                     have hns98_3 := a7.out
                     have hms98_0 := bL.out
                     have hms98_1 := bN.out
                     have hms98_2 := bP.out
                     have hms98_3 := bQ.out
                     refine skip_ (w1 := ?_) (by rfl) rfl ?_ ?_
                     rotate_left
                     ·go_simp
                      rfl
                     have nb_ := Kd.own_blk (Kd.R_ne aQ.out aN.out (by decide))
                     refine hK.out _ _ ⟨(cf5 a7.out hHeld.1), (cf5 a7.out hHeld.2.1), (cf5 a7.out hHeld.2.2.1), (cf5 a7.out hHeld.2.2.2.1), (cf5 a7.out hHeld.2.2.2.2.1), (cf5 (by first | (rw [add_block]; exact nb_) | (show (Addr.add _ _).block ≠ _; rw [add_block]; exact nb_) | exact nb_) hHeld.2.2.2.2.2.1), (cf5 (by first | (rw [add_block]; exact nb_) | (show (Addr.add _ _).block ≠ _; rw [add_block]; exact nb_) | exact nb_) hHeld.2.2.2.2.2.2.1), (cf5 (by first | (rw [add_block]; exact nb_) | (show (Addr.add _ _).block ≠ _; rw [add_block]; exact nb_) | exact nb_) hHeld.2.2.2.2.2.2.2.1), (cf5 (by first | (rw [add_block]; exact nb_) | (show (Addr.add _ _).block ≠ _; rw [add_block]; exact nb_) | exact nb_) hHeld.2.2.2.2.2.2.2.2.1), (cf5 (by first | (rw [add_block]; exact nb_) | (show (Addr.add _ _).block ≠ _; rw [add_block]; exact nb_) | exact nb_) hHeld.2.2.2.2.2.2.2.2.2.1), (cf5 (by first | (rw [add_block]; exact nb_) | (show (Addr.add _ _).block ≠ _; rw [add_block]; exact nb_) | exact nb_) hHeld.2.2.2.2.2.2.2.2.2.2.1), (cf5 (by first | (rw [add_block]; exact nb_) | (show (Addr.add _ _).block ≠ _; rw [add_block]; exact nb_) | exact nb_) hHeld.2.2.2.2.2.2.2.2.2.2.2.1), (cf5 (by first | (rw [add_block]; exact nb_) | (show (Addr.add _ _).block ≠ _; rw [add_block]; exact nb_) | exact nb_) hHeld.2.2.2.2.2.2.2.2.2.2.2.2)⟩ (fun hHeld => ?_)
                     clear hK K
                     refine pure_ (i := 10) (N := some 11) (v := ?_) (a' := ?_) (bs 11 2047) rfl rfl (any_of HT_.out (by kernel_rfl)) (fun _ _ _ h => h) (Or.inl ⟨by rfl, ?_⟩) ?_ ?_
                     rotate_left
                     ·intro w'
                      go_simp
                      with_reducible rfl
                     rotate_left
                     ·simp only [Act.put, sA, sB, sC, i64_w, i32_w]
                      rfl
                     refine done_ (done_of HT_.out (by kernel_rfl)) ?_
                     obtain ⟨Ao99, co99, nD⟩ := Kd.R_slice dJ.out
                     subst nD
                     have hnb100 := bL.out
                     have hnc100 := a6.out
                     have hnb101 := bN.out
                     have hnc101 := bM.out
                     have hnb102 := bP.out
                     have hnc102 := bO.out
                     have hnb103 := bQ.out
                     have hnc103 := a7.out
                     obtain ⟨nE, nF, nH, nI, nJ⟩ := cz5 aN.out
                     obtain ⟨nK, nM, nN, nO, nP⟩ := fz5 aN.out
                     obtain ⟨nQ, nR, nS, nT⟩ := cz4 aR.out
                     obtain ⟨nU, nV, nW, nX⟩ := fz4 aR.out
                     obtain ⟨nY, nZ, n0, n1, n2⟩ := cz5 aT.out
                     obtain ⟨n3, n4, n5, n6, n7⟩ := fz5 aT.out
                     try go_wp2
                     go_roundg kj53
                     case measure => have := HK1.out; have := HK2.out; have := HJ36.out; have := HJ53.out; omega
                     case rel => exact ⟨(wrap64 (aB + 1)), (by first | rfl | (simp; done) | (simp [*]; done)), H', ⟨by have := HK1.out; have := HK2.out; have := HJ36.out; have := HJ53.out; omega⟩, ⟨by refine mV ?_; exact Kd.V_mono (vg5_0 a4 (Kd.V_mono aE.out (fun k_ hk => (⟨hk, hk.2.2.2.2.2.2.2.2⟩ : _ ∧ k_ ≠ a4))) (fun _ hk => hk.2) (.int .i64 dF) (.int .i64 dX) (.slice kF dK.length kG) (.int .i64 dY) (.int .i64 dG)) (fun _ hk => ⟨hk.1.2.2.1, ⟨hk.1.2.2.2.1, hk.1.2.2.2.2.1⟩⟩)⟩, ⟨by refine mR ?_; exact Kd.R_mono (rg5_0 a4 (Kd.R_types aF.out aN.out (by decide)) (fun _ hk => hk.2) (.int .i64 dF) (.int .i64 dX) (.slice kF dK.length kG) (.int .i64 dY) (.int .i64 dG)) (fun _ hk => trivial)⟩, ⟨by refine mR ?_; exact Kd.R_mono (rg5_0 a4 (Kd.R_types aD.out aN.out (by decide)) (fun _ hk => hk.2) (.int .i64 dF) (.int .i64 dX) (.slice kF dK.length kG) (.int .i64 dY) (.int .i64 dG)) (fun _ hk => trivial)⟩, ⟨by exact (mK (fr (fr (fr (fr (fr aC.out a6.out) a6.out) a6.out) a6.out) a6.out))⟩, ⟨by haveI := Ge.mk cQ.out; exact kB HB.out⟩⟩
                    ·rw [if_neg c76] at H
                     exact absurd H (by simp)
                   ·rw [if_neg c75] at H
                    exact absurd H (by simp)
                  ·rw [if_neg c74] at H
                   exact absurd H (by simp)
                 ·rw [if_neg c73] at H
                  exact absurd H (by simp)
                ·rw [if_neg c71] at H
                 exact absurd H (by simp)
         ·rw [if_neg c36] at H
          exact absurd H (by simp)
        ·rw [if_neg c35] at H
         have kL : decide (aB < (aA.length : Int)) = false := decide_eq_false c35
         clear c35
         have H' := Aside0.mk H
         clear H
         obtain ⟨n8, n9, oA, oB, oC, oD, oE, oF, oG, oH, mZ, m0⟩ := cz12 aC.out
         obtain ⟨oI, oJ, oK, oL, oM, oN, oO, oP, oQ, oR, m1, m2⟩ := fz12 aC.out
         go_wp2
         go_roundg k2
         case measure => have := HK1.out; have := HK2.out; omega
         case rel => exact ⟨(wrap64 (bE + 1)), (a8), (aW), (aS), (aX), (aU), (bF), (bG), (bH), (bI), (aV), (aA), (b5), (.slice aY aS.length aZ), (.slice a9 aV.length bA), (.slice d7 aA.length a2), (by first | rfl | (simp; done) | (simp [*]; done)), H', ⟨by have := HK1.out; have := HK2.out; omega⟩, ⟨by refine mV ?_; exact aE.out⟩, ⟨by refine mR ?_; exact aF.out⟩, ⟨by refine mR ?_; exact aD.out⟩, ⟨by refine mK ?_; exact aC.out⟩, ⟨kB HB.out⟩⟩
     ·rw [if_neg c13] at H
      exact absurd H (by simp)
    ·rw [if_neg c12] at H
     have jX : decide (bE < (l0.length : Int)) = false := decide_eq_false c12
     clear c12
     replace H := Option.bind_eq_some_iff.mp H
     obtain ⟨j5, A1080, H⟩ := H
     (try dsimp only at H)
     have A108 := Aside0.mk A1080
     clear A1080
     by_cases c109 : j5 = true
     ·subst c109
      have H1 : (some b4) = some r := by rw [if_pos rfl] at H; exact H
      clear H
      have H := H1
      clear H1
      obtain rfl := Option.some.inj H
      go_wp2_with (first | ((with_reducible refine gate_callee (f := 12) rfl ?_); refine goesL_ (some 125) rfl rfl Try.func12 (by kernel_rfl) rfl #[] rfl (by (try simp only [List.map_toArray, List.map_cons, List.map_nil]); first | done | rfl | (simp only [List.length_drop, List.length_take]; rfl)) ?_; (with_reducible refine (standbylaw32_awake.calls k1  true _ A108.out).mono ?_); rintro e w110 ⟨rfl, hb⟩; refine ⟨_, rfl, ?_⟩; replace aE := tV aE hb; replace aF := tR aF hb; replace aD := tR aD hb; replace aC := tK aC hb; replace HB := tB HB hb; (try clear hb); (try clear hb2); (try clear hk); (try clear hi); obtain ⟨oS, oT, oU, oV, oW, oX, oY, oZ, o0, o1, m3, m4⟩ := cz12 aC.out; obtain ⟨o2, o3, o4, o5, o6, o7, o8, o9, pA, pB, m5, m6⟩ := fz12 aC.out))
      go_ret
      exact ⟨by first | rfl | (simp [errW_none, errW_some] <;> rfl) | (simp [*, errW_none, errW_some] <;> rfl), (kB HB.out)⟩
     ·replace c109 := Bool.eq_false_iff.mpr c109
      subst c109
      have H1 : (none) = some r := by rw [if_neg (show ¬ (false = true) by decide)] at H; exact H
      clear H
      have H := H1
      clear H1
      exact absurd H (by simp)

end Go.Proofs.Ytedoloapddmanaa.PB
