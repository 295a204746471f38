-- Written by a program of this session (wip/tools) over the kit's print.
import Derived.Test.YtedoloapddmanaaPBx0
import Derived.Test.YtedoloapddmanaaSh
import Derived.Test.YtedoloapddmanaaSh2
import Derived.Test.YtedoloapddmanaaPBx2
import Derived.Test.YtedoloapddmanaaPBx7
import Derived.Test.YtedoloapddmanaaPBx8
import Derived.Test.YtedoloapddmanaaPBx10
import Derived.Test.YtedoloapddmanaaPBx11
import Derived.Test.YtedoloapddmanaaPBx25
namespace Go.Proofs.Ytedoloapddmanaa.PB
open Go.RowKit Go.Proofs.YtedoloapddmanaaW.PrintWords Go.Proofs.YtedoloapddmanaaW.PrintLast Go.Proofs.YtedoloapddmanaaW.PrintMore
attribute [local go_sem] max2_int min2_int max_two min_two max_three min_three max_four min_four   -- for this text's walks alone
set_option linter.unusedVariables false
set_option linter.unusedSimpArgs false

/-! ### standbylaw32_step: function 38 -/
mutual
def standbylaw32_step.l0 : Nat → List (S53) → Int → Int → Int → List Int → Int → Int → Int → Int → Int → Int → List Int → List (S53) → Bool → Option (Int × Int × List Int × Int × Int × Int × Int × Int × Int × List Int × (List (S53)) × Bool)
 | 0, _, _, _, _, _, _, _, _, _, _, _, _, _, _ => none
 | k + 1, x5, x10, aE, aI, aB, aJ, aK, aF, aL, aD, aG, aM, aC, aN => if x10 < (aB.length : Int) then (if 0 ≤ x10 then (if (rd aB x10) > aD then (standbylaw32_step.j1 k x5 x10 (rd aB x10) (aE == aF) aE aI aB aJ aK aF aL aD aG aM aC aN) else (standbylaw32_step.j1 k x5 x10 (rd aB x10) false aE aI aB aJ aK aF aL aD aG aM aC aN)) else (none)) else (if aC.length + x5.length < 1466015503701 then (some (aE, aI, aB, aJ, aK, aF, aL, aD, aG, aM, (aC ++ x5), aN)) else (none))
def standbylaw32_step.j1 : Nat → List (S53) → Int → Int → Bool → Int → Int → List Int → Int → Int → Int → Int → Int → Int → List Int → List (S53) → Bool → Option (Int × Int × List Int × Int × Int × Int × Int × Int × Int × List Int × (List (S53)) × Bool)
 | 0, _, _, _, _, _, _, _, _, _, _, _, _, _, _, _, _ => none
 | k + 1, x5, x10, x11, x126, aE, aI, aB, aJ, aK, aF, aL, aD, aG, aM, aC, aN => if x126 = true then ((commit_Store.f k aF aL aD aG x11).bind fun bD => (if bD.2.2.2.2.2 = 0 then (if aC.length + bD.2.2.2.2.1.length < 1466015503701 then (some (aE, aI, aB, aJ, aK, bD.1, bD.2.1, bD.2.2.1, bD.2.2.2.1, aM, (aC ++ bD.2.2.2.2.1), aN)) else (none)) else (none))) else (standbylaw32_step.l0 k x5 (wrap64 (x10 + 1)) aE aI aB aJ aK aF aL aD aG aM aC aN)
def standbylaw32_step.l1 : Nat → List (S53) → Int → Int → Int → List Int → Int → Int → Int → Int → Int → Int → List Int → List (S53) → Bool → Int → Int → Option (Int × Int × List Int × Int × Int × Int × Int × Int × Int × List Int × (List (S53)) × Bool)
 | 0, _, _, _, _, _, _, _, _, _, _, _, _, _, _, _, _ => none
 | k + 1, x5, x15, aE, aI, aB, aJ, aK, aF, aL, aD, aG, aM, aC, aN, bC, aU => if x15 ≥ 0 then (if 0 ≤ x15 then (if x15 < (aB.length : Int) then (if (rd aB x15) > aG then (if (rd aB x15) ≤ aD then (standbylaw32_step.j3 k x5 x15 (rd aB x15) ((((aU + ((x15) % 256)) % 256) % 2) == 0) aE aI aB aJ aK aF aL aD aG aM aC aN bC aU) else (standbylaw32_step.j3 k x5 x15 (rd aB x15) false aE aI aB aJ aK aF aL aD aG aM aC aN bC aU)) else (standbylaw32_step.j3 k x5 x15 (rd aB x15) false aE aI aB aJ aK aF aL aD aG aM aC aN bC aU)) else (none)) else (none)) else (if aC.length + x5.length < 1466015503701 then (some (aE, aI, aB, aJ, aK, aF, aL, aD, aG, aM, (aC ++ x5), aN)) else (none))
def standbylaw32_step.j3 : Nat → List (S53) → Int → Int → Bool → Int → Int → List Int → Int → Int → Int → Int → Int → Int → List Int → List (S53) → Bool → Int → Int → Option (Int × Int × List Int × Int × Int × Int × Int × Int × Int × List Int × (List (S53)) × Bool)
 | 0, _, _, _, _, _, _, _, _, _, _, _, _, _, _, _, _, _, _ => none
 | k + 1, x5, x15, x16, x178, aE, aI, aB, aJ, aK, aF, aL, aD, aG, aM, aC, aN, bC, aU => if x178 = true then ((commit_Apply.f k aF aL aD aG x16).bind fun bE => (if bE.2.2.2.2.2 = 0 then (if aC.length + bE.2.2.2.2.1.length < 1466015503701 then (some (aE, aI, aB, aJ, aK, bE.1, bE.2.1, bE.2.2.1, bE.2.2.2.1, aM, (aC ++ bE.2.2.2.2.1), aN)) else (none)) else (none))) else (standbylaw32_step.l1 k x5 (wrap64 (x15 - 1)) aE aI aB aJ aK aF aL aD aG aM aC aN bC aU)
end
def standbylaw32_step.f (k : Nat) (aV : Int) (aW : Int) (aO : List Int) (aX : Int) (aQ : Int) (aS : Int) (aY : Int) (aZ : Int) (aT : Int) (aR : List Int) (aA : List (S53)) (aP : Bool) (bI : Int) (aH : Int) : Option (Int × Int × List Int × Int × Int × Int × Int × Int × Int × List Int × (List (S53)) × Bool) := if (Int.tmod bI 7) = 0 then (if (aO.length : Int) > 0 then (if 0 ≤ (wrap64 ((aO.length : Int) - 1)) then (if (wrap64 ((aO.length : Int) - 1)) < (aO.length : Int) then ((commit_Offer.f k aV aW aO aX aQ (wrap64 ((wrap64 ((rd aO (wrap64 ((aO.length : Int) - 1))) + 1)) + (wrap64 (Int.tmod aH 2))))).bind fun bA => (if bA.2.2.2.2.2.2 = 0 then (if aR.length < 17592186044416 then (if aA.length + bA.2.2.2.2.2.1.length < 1466015503701 then (some (bA.1, bA.2.1, bA.2.2.1, bA.2.2.2.1, bA.2.2.2.2.1, aS, aY, aZ, aT, (aR ++ [wrap64 ((wrap64 ((rd aO (wrap64 ((aO.length : Int) - 1))) + 1)) + (wrap64 (Int.tmod aH 2)))]), (aA ++ bA.2.2.2.2.2.1), aP)) else (none)) else (none)) else (none))) else (none)) else (none)) else ((commit_Offer.f k aV aW aO aX aQ (wrap64 ((wrap64 (aQ + 1)) + (wrap64 (Int.tmod aH 2))))).bind fun bB => (if bB.2.2.2.2.2.2 = 0 then (if aR.length < 17592186044416 then (if aA.length + bB.2.2.2.2.2.1.length < 1466015503701 then (some (bB.1, bB.2.1, bB.2.2.1, bB.2.2.2.1, bB.2.2.2.2.1, aS, aY, aZ, aT, (aR ++ [wrap64 ((wrap64 (aQ + 1)) + (wrap64 (Int.tmod aH 2)))]), (aA ++ bB.2.2.2.2.2.1), aP)) else (none)) else (none)) else (none)))) else (if (Int.tmod bI 7) = 1 then (standbylaw32_step.l0 k ([] : List (S53)) 0 aV aW aO aX aQ aS aY aZ aT aR aA aP) else (if (Int.tmod bI 7) = 2 then (standbylaw32_step.l1 k ([] : List (S53)) (wrap64 ((aO.length : Int) - 1)) aV aW aO aX aQ aS aY aZ aT aR aA aP bI aH) else (if (Int.tmod bI 7) = 3 then (if (aA.length : Int) > 0 then (if (aA.length : Int) = 0 then (none) else (if 0 ≤ (Int.tmod (wrap64 (aH)) (aA.length : Int)) then (if (Int.tmod (wrap64 (aH)) (aA.length : Int)) < (aA.length : Int) then ((commit_Learn.f k aV aW aO aX aQ ((rd_T53 aA (Int.tmod (wrap64 (aH)) (aA.length : Int))).f0) ((rd_T53 aA (Int.tmod (wrap64 (aH)) (aA.length : Int))).f1) ((rd_T53 aA (Int.tmod (wrap64 (aH)) (aA.length : Int))).f2) ((rd_T53 aA (Int.tmod (wrap64 (aH)) (aA.length : Int))).f3) ((rd_T53 aA (Int.tmod (wrap64 (aH)) (aA.length : Int))).f4) ((rd_T53 aA (Int.tmod (wrap64 (aH)) (aA.length : Int))).f5) ((rd_T53 aA (Int.tmod (wrap64 (aH)) (aA.length : Int))).f6) ((rd_T53 aA (Int.tmod (wrap64 (aH)) (aA.length : Int))).f7)).bind fun bF => (if aA.length + bF.2.2.2.2.2.length < 1466015503701 then (some (bF.1, bF.2.1, bF.2.2.1, bF.2.2.2.1, bF.2.2.2.2.1, aS, aY, aZ, aT, aR, (aA ++ bF.2.2.2.2.2), aP)) else (none))) else (none)) else (none))) else (some (aV, aW, aO, aX, aQ, aS, aY, aZ, aT, aR, aA, aP))) else (if (Int.tmod bI 7) = 4 then (if (aA.length : Int) > 0 then (if (aA.length : Int) = 0 then (none) else (if 0 ≤ (Int.tmod (wrap64 (aH)) (aA.length : Int)) then (if (Int.tmod (wrap64 (aH)) (aA.length : Int)) < (aA.length : Int) then ((commit_Answer.f k aS aY aZ aT ((rd_T53 aA (Int.tmod (wrap64 (aH)) (aA.length : Int))).f0) ((rd_T53 aA (Int.tmod (wrap64 (aH)) (aA.length : Int))).f1) ((rd_T53 aA (Int.tmod (wrap64 (aH)) (aA.length : Int))).f2) ((rd_T53 aA (Int.tmod (wrap64 (aH)) (aA.length : Int))).f3) ((rd_T53 aA (Int.tmod (wrap64 (aH)) (aA.length : Int))).f4) ((rd_T53 aA (Int.tmod (wrap64 (aH)) (aA.length : Int))).f5) ((rd_T53 aA (Int.tmod (wrap64 (aH)) (aA.length : Int))).f6) ((rd_T53 aA (Int.tmod (wrap64 (aH)) (aA.length : Int))).f7)).bind fun bG => (if aA.length + bG.2.2.2.2.length < 1466015503701 then (some (aV, aW, aO, aX, aQ, bG.1, bG.2.1, bG.2.2.1, bG.2.2.2.1, aR, (aA ++ bG.2.2.2.2), aP)) else (none))) else (none)) else (none))) else (some (aV, aW, aO, aX, aQ, aS, aY, aZ, aT, aR, aA, aP))) else (if (Int.tmod bI 7) = 5 then ((commit_Resend.f k aV aW aO aX aQ).bind fun bJ => (if aA.length + bJ.length < 1466015503701 then (some (aV, aW, aO, aX, aQ, aS, aY, aZ, aT, aR, (aA ++ bJ), aP)) else (none))) else ((commit_NewSource.f (wrap64 (aS + 1)) 2 aT).bind fun bH => (if bH.2.2.2.2.2 = 0 then (if (Int.tmod aH 4) = 0 then (some (bH.1, bH.2.1, bH.2.2.1, bH.2.2.2.1, bH.2.2.2.2.1, aS, aY, aZ, aT, aR, aA, aP)) else (some (aV, aW, aO, aX, aQ, aS, aY, aZ, aT, aR, aA, aP))) else (none))))))))
theorem standbylaw32_step.mono_l : ∀ k, (∀ y0 y1 y2 y3 y4 y5 y6 y7 y8 y9 y10 y11 y12 y13, LeO (standbylaw32_step.l0 k y0 y1 y2 y3 y4 y5 y6 y7 y8 y9 y10 y11 y12 y13) (standbylaw32_step.l0 (k + 1) y0 y1 y2 y3 y4 y5 y6 y7 y8 y9 y10 y11 y12 y13)) ∧ (∀ y0 y1 y2 y3 y4 y5 y6 y7 y8 y9 y10 y11 y12 y13 y14 y15, LeO (standbylaw32_step.j1 k y0 y1 y2 y3 y4 y5 y6 y7 y8 y9 y10 y11 y12 y13 y14 y15) (standbylaw32_step.j1 (k + 1) y0 y1 y2 y3 y4 y5 y6 y7 y8 y9 y10 y11 y12 y13 y14 y15)) ∧ (∀ y0 y1 y2 y3 y4 y5 y6 y7 y8 y9 y10 y11 y12 y13 y14 y15, LeO (standbylaw32_step.l1 k y0 y1 y2 y3 y4 y5 y6 y7 y8 y9 y10 y11 y12 y13 y14 y15) (standbylaw32_step.l1 (k + 1) y0 y1 y2 y3 y4 y5 y6 y7 y8 y9 y10 y11 y12 y13 y14 y15)) ∧ (∀ y0 y1 y2 y3 y4 y5 y6 y7 y8 y9 y10 y11 y12 y13 y14 y15 y16 y17, LeO (standbylaw32_step.j3 k y0 y1 y2 y3 y4 y5 y6 y7 y8 y9 y10 y11 y12 y13 y14 y15 y16 y17) (standbylaw32_step.j3 (k + 1) y0 y1 y2 y3 y4 y5 y6 y7 y8 y9 y10 y11 y12 y13 y14 y15 y16 y17))
 | 0 => ⟨fun _ _ _ _ _ _ _ _ _ _ _ _ _ _ r h => by simp [standbylaw32_step.l0] at h, fun _ _ _ _ _ _ _ _ _ _ _ _ _ _ _ _ r h => by simp [standbylaw32_step.j1] at h, fun _ _ _ _ _ _ _ _ _ _ _ _ _ _ _ _ r h => by simp [standbylaw32_step.l1] at h, fun _ _ _ _ _ _ _ _ _ _ _ _ _ _ _ _ _ _ r h => by simp [standbylaw32_step.j3] at h⟩
 | k + 1 => by
  obtain ⟨ih0, ih1, ih2, ih3⟩ := standbylaw32_step.mono_l k
  refine ⟨?_, ?_, ?_, ?_⟩
  ·intro y0 y1 y2 y3 y4 y5 y6 y7 y8 y9 y10 y11 y12 y13
   unfold standbylaw32_step.l0
   repeat' first
   | (with_reducible exact ih0 _ _ _ _ _ _ _ _ _ _ _ _ _ _)
   | (with_reducible exact ih1 _ _ _ _ _ _ _ _ _ _ _ _ _ _ _ _)
   | (with_reducible exact ih2 _ _ _ _ _ _ _ _ _ _ _ _ _ _ _ _)
   | (with_reducible exact ih3 _ _ _ _ _ _ _ _ _ _ _ _ _ _ _ _ _ _)
   | (with_reducible exact commit_Answer.mono _ _ _ _ _ _ _ _ _ _ _ _ _)
   | (with_reducible exact commit_Apply.mono _ _ _ _ _ _)
   | (with_reducible exact commit_Learn.mono _ _ _ _ _ _ _ _ _ _ _ _ _ _)
   | (with_reducible exact commit_Offer.mono _ _ _ _ _ _ _)
   | (with_reducible exact commit_Resend.mono _ _ _ _ _ _)
   | (with_reducible exact commit_Store.mono _ _ _ _ _ _)
   | (with_reducible exact LeO.refl _)
   | (with_reducible exact LeO.none _)
   | (with_reducible refine LeO.ite ?_ ?_)
   | (with_reducible refine LeO.bind ?_ (fun _ => ?_))
   | exact ih0 _ _ _ _ _ _ _ _ _ _ _ _ _ _
   | exact ih1 _ _ _ _ _ _ _ _ _ _ _ _ _ _ _ _
   | exact ih2 _ _ _ _ _ _ _ _ _ _ _ _ _ _ _ _
   | exact ih3 _ _ _ _ _ _ _ _ _ _ _ _ _ _ _ _ _ _
   | exact commit_Answer.mono _ _ _ _ _ _ _ _ _ _ _ _ _
   | exact commit_Apply.mono _ _ _ _ _ _
   | exact commit_Learn.mono _ _ _ _ _ _ _ _ _ _ _ _ _ _
   | exact commit_Offer.mono _ _ _ _ _ _ _
   | exact commit_Resend.mono _ _ _ _ _ _
   | exact commit_Store.mono _ _ _ _ _ _
   | exact LeO.none _
   | refine LeO.ite ?_ ?_
   | refine LeO.bind ?_ (fun _ => ?_)
  ·intro y0 y1 y2 y3 y4 y5 y6 y7 y8 y9 y10 y11 y12 y13 y14 y15
   unfold standbylaw32_step.j1
   repeat' first
   | (with_reducible exact ih0 _ _ _ _ _ _ _ _ _ _ _ _ _ _)
   | (with_reducible exact ih1 _ _ _ _ _ _ _ _ _ _ _ _ _ _ _ _)
   | (with_reducible exact ih2 _ _ _ _ _ _ _ _ _ _ _ _ _ _ _ _)
   | (with_reducible exact ih3 _ _ _ _ _ _ _ _ _ _ _ _ _ _ _ _ _ _)
   | (with_reducible exact commit_Answer.mono _ _ _ _ _ _ _ _ _ _ _ _ _)
   | (with_reducible exact commit_Apply.mono _ _ _ _ _ _)
   | (with_reducible exact commit_Learn.mono _ _ _ _ _ _ _ _ _ _ _ _ _ _)
   | (with_reducible exact commit_Offer.mono _ _ _ _ _ _ _)
   | (with_reducible exact commit_Resend.mono _ _ _ _ _ _)
   | (with_reducible exact commit_Store.mono _ _ _ _ _ _)
   | (with_reducible exact LeO.refl _)
   | (with_reducible exact LeO.none _)
   | (with_reducible refine LeO.ite ?_ ?_)
   | (with_reducible refine LeO.bind ?_ (fun _ => ?_))
   | exact ih0 _ _ _ _ _ _ _ _ _ _ _ _ _ _
   | exact ih1 _ _ _ _ _ _ _ _ _ _ _ _ _ _ _ _
   | exact ih2 _ _ _ _ _ _ _ _ _ _ _ _ _ _ _ _
   | exact ih3 _ _ _ _ _ _ _ _ _ _ _ _ _ _ _ _ _ _
   | exact commit_Answer.mono _ _ _ _ _ _ _ _ _ _ _ _ _
   | exact commit_Apply.mono _ _ _ _ _ _
   | exact commit_Learn.mono _ _ _ _ _ _ _ _ _ _ _ _ _ _
   | exact commit_Offer.mono _ _ _ _ _ _ _
   | exact commit_Resend.mono _ _ _ _ _ _
   | exact commit_Store.mono _ _ _ _ _ _
   | exact LeO.none _
   | refine LeO.ite ?_ ?_
   | refine LeO.bind ?_ (fun _ => ?_)
  ·intro y0 y1 y2 y3 y4 y5 y6 y7 y8 y9 y10 y11 y12 y13 y14 y15
   unfold standbylaw32_step.l1
   repeat' first
   | (with_reducible exact ih0 _ _ _ _ _ _ _ _ _ _ _ _ _ _)
   | (with_reducible exact ih1 _ _ _ _ _ _ _ _ _ _ _ _ _ _ _ _)
   | (with_reducible exact ih2 _ _ _ _ _ _ _ _ _ _ _ _ _ _ _ _)
   | (with_reducible exact ih3 _ _ _ _ _ _ _ _ _ _ _ _ _ _ _ _ _ _)
   | (with_reducible exact commit_Answer.mono _ _ _ _ _ _ _ _ _ _ _ _ _)
   | (with_reducible exact commit_Apply.mono _ _ _ _ _ _)
   | (with_reducible exact commit_Learn.mono _ _ _ _ _ _ _ _ _ _ _ _ _ _)
   | (with_reducible exact commit_Offer.mono _ _ _ _ _ _ _)
   | (with_reducible exact commit_Resend.mono _ _ _ _ _ _)
   | (with_reducible exact commit_Store.mono _ _ _ _ _ _)
   | (with_reducible exact LeO.refl _)
   | (with_reducible exact LeO.none _)
   | (with_reducible refine LeO.ite ?_ ?_)
   | (with_reducible refine LeO.bind ?_ (fun _ => ?_))
   | exact ih0 _ _ _ _ _ _ _ _ _ _ _ _ _ _
   | exact ih1 _ _ _ _ _ _ _ _ _ _ _ _ _ _ _ _
   | exact ih2 _ _ _ _ _ _ _ _ _ _ _ _ _ _ _ _
   | exact ih3 _ _ _ _ _ _ _ _ _ _ _ _ _ _ _ _ _ _
   | exact commit_Answer.mono _ _ _ _ _ _ _ _ _ _ _ _ _
   | exact commit_Apply.mono _ _ _ _ _ _
   | exact commit_Learn.mono _ _ _ _ _ _ _ _ _ _ _ _ _ _
   | exact commit_Offer.mono _ _ _ _ _ _ _
   | exact commit_Resend.mono _ _ _ _ _ _
   | exact commit_Store.mono _ _ _ _ _ _
   | exact LeO.none _
   | refine LeO.ite ?_ ?_
   | refine LeO.bind ?_ (fun _ => ?_)
  ·intro y0 y1 y2 y3 y4 y5 y6 y7 y8 y9 y10 y11 y12 y13 y14 y15 y16 y17
   unfold standbylaw32_step.j3
   repeat' first
   | (with_reducible exact ih0 _ _ _ _ _ _ _ _ _ _ _ _ _ _)
   | (with_reducible exact ih1 _ _ _ _ _ _ _ _ _ _ _ _ _ _ _ _)
   | (with_reducible exact ih2 _ _ _ _ _ _ _ _ _ _ _ _ _ _ _ _)
   | (with_reducible exact ih3 _ _ _ _ _ _ _ _ _ _ _ _ _ _ _ _ _ _)
   | (with_reducible exact commit_Answer.mono _ _ _ _ _ _ _ _ _ _ _ _ _)
   | (with_reducible exact commit_Apply.mono _ _ _ _ _ _)
   | (with_reducible exact commit_Learn.mono _ _ _ _ _ _ _ _ _ _ _ _ _ _)
   | (with_reducible exact commit_Offer.mono _ _ _ _ _ _ _)
   | (with_reducible exact commit_Resend.mono _ _ _ _ _ _)
   | (with_reducible exact commit_Store.mono _ _ _ _ _ _)
   | (with_reducible exact LeO.refl _)
   | (with_reducible exact LeO.none _)
   | (with_reducible refine LeO.ite ?_ ?_)
   | (with_reducible refine LeO.bind ?_ (fun _ => ?_))
   | exact ih0 _ _ _ _ _ _ _ _ _ _ _ _ _ _
   | exact ih1 _ _ _ _ _ _ _ _ _ _ _ _ _ _ _ _
   | exact ih2 _ _ _ _ _ _ _ _ _ _ _ _ _ _ _ _
   | exact ih3 _ _ _ _ _ _ _ _ _ _ _ _ _ _ _ _ _ _
   | exact commit_Answer.mono _ _ _ _ _ _ _ _ _ _ _ _ _
   | exact commit_Apply.mono _ _ _ _ _ _
   | exact commit_Learn.mono _ _ _ _ _ _ _ _ _ _ _ _ _ _
   | exact commit_Offer.mono _ _ _ _ _ _ _
   | exact commit_Resend.mono _ _ _ _ _ _
   | exact commit_Store.mono _ _ _ _ _ _
   | exact LeO.none _
   | refine LeO.ite ?_ ?_
   | refine LeO.bind ?_ (fun _ => ?_)
theorem standbylaw32_step.mono : ∀ a0 a1 a2 a3 a4 a5 a6 a7 a8 a9 a10 a11 a12 a13 k, LeO (standbylaw32_step.f k a0 a1 a2 a3 a4 a5 a6 a7 a8 a9 a10 a11 a12 a13) (standbylaw32_step.f (k + 1) a0 a1 a2 a3 a4 a5 a6 a7 a8 a9 a10 a11 a12 a13) := by
 intro a0 a1 a2 a3 a4 a5 a6 a7 a8 a9 a10 a11 a12 a13 k
 obtain ⟨ih0, ih1, ih2, ih3⟩ := standbylaw32_step.mono_l k
 unfold standbylaw32_step.f
 repeat' first
   | (with_reducible exact ih0 _ _ _ _ _ _ _ _ _ _ _ _ _ _)
   | (with_reducible exact ih1 _ _ _ _ _ _ _ _ _ _ _ _ _ _ _ _)
   | (with_reducible exact ih2 _ _ _ _ _ _ _ _ _ _ _ _ _ _ _ _)
   | (with_reducible exact ih3 _ _ _ _ _ _ _ _ _ _ _ _ _ _ _ _ _ _)
   | (with_reducible exact commit_Answer.mono _ _ _ _ _ _ _ _ _ _ _ _ _)
   | (with_reducible exact commit_Apply.mono _ _ _ _ _ _)
   | (with_reducible exact commit_Learn.mono _ _ _ _ _ _ _ _ _ _ _ _ _ _)
   | (with_reducible exact commit_Offer.mono _ _ _ _ _ _ _)
   | (with_reducible exact commit_Resend.mono _ _ _ _ _ _)
   | (with_reducible exact commit_Store.mono _ _ _ _ _ _)
   | (with_reducible exact LeO.refl _)
   | (with_reducible exact LeO.none _)
   | (with_reducible refine LeO.ite ?_ ?_)
   | (with_reducible refine LeO.bind ?_ (fun _ => ?_))
   | exact ih0 _ _ _ _ _ _ _ _ _ _ _ _ _ _
   | exact ih1 _ _ _ _ _ _ _ _ _ _ _ _ _ _ _ _
   | exact ih2 _ _ _ _ _ _ _ _ _ _ _ _ _ _ _ _
   | exact ih3 _ _ _ _ _ _ _ _ _ _ _ _ _ _ _ _ _ _
   | exact commit_Answer.mono _ _ _ _ _ _ _ _ _ _ _ _ _
   | exact commit_Apply.mono _ _ _ _ _ _
   | exact commit_Learn.mono _ _ _ _ _ _ _ _ _ _ _ _ _ _
   | exact commit_Offer.mono _ _ _ _ _ _ _
   | exact commit_Resend.mono _ _ _ _ _ _
   | exact commit_Store.mono _ _ _ _ _ _
   | exact LeO.none _
   | refine LeO.ite ?_ ?_
   | refine LeO.bind ?_ (fun _ => ?_)
def standbylaw32_step.T36 : Bool × List (List Nat × List Nat) := (true, [([], []), ([0], [0]), ([], []), ([2], [2]), ([], []), ([4], [4]), ([5], [5]), ([], []), ([7], [7]), ([8], [8]), ([6, 9], [6, 9]), ([3, 10], [3, 10]), ([11], [11]), ([1, 12], [1, 12]), ([13], [13]), ([14], [14]), ([14], [14]), ([0, 1, 2, 3, 4, 5, 6, 7, 8, 9, 10, 11, 12, 13, 14, 15], []), ([17, 15, 13, 0, 1, 2, 3, 4, 5, 6, 7, 8, 9, 10, 11, 12, 13, 14, 15], [15, 17]), ([16, 18, 0, 1, 2, 3, 4, 5, 6, 7, 8, 9, 10, 11, 12, 13, 14, 15, 16, 17, 18], [16])])
def standbylaw32_step.B36 : List Nat := [0, 1, 0, 4, 0, 16, 48, 0, 128, 384, 1008, 2044, 4092, 8191, 16383, 32767, 32767, 65535, 196607, 524287]
theorem standbylaw32_step.tab36 : rtab .any (opsOf Try.f38 36) = standbylaw32_step.T36 := by kernel_rfl
theorem standbylaw32_step.bits36 : waitsOk standbylaw32_step.T36.2 standbylaw32_step.B36 = true := by kernel_rfl
def standbylaw32_step.T39 : Bool × List (List Nat × List Nat) := (true, [([], []), ([0], [0]), ([], []), ([2], [2]), ([], []), ([4], [4]), ([5], [5]), ([], []), ([7], [7]), ([8], [8]), ([6, 9], [6, 9]), ([3, 10], [3, 10]), ([11], [11]), ([1, 12], [1, 12]), ([13], [13]), ([14], [14]), ([14], [14]), ([0, 1, 2, 3, 4, 5, 6, 7, 8, 9, 10, 11, 12, 13, 14, 15], []), ([17, 15, 13, 0, 1, 2, 3, 4, 5, 6, 7, 8, 9, 10, 11, 12, 13, 14, 15], [15, 17]), ([16, 18, 0, 1, 2, 3, 4, 5, 6, 7, 8, 9, 10, 11, 12, 13, 14, 15, 16, 17, 18], [16])])
def standbylaw32_step.B39 : List Nat := [0, 1, 0, 4, 0, 16, 48, 0, 128, 384, 1008, 2044, 4092, 8191, 16383, 32767, 32767, 65535, 196607, 524287]
theorem standbylaw32_step.tab39 : rtab .any (opsOf Try.f38 39) = standbylaw32_step.T39 := by kernel_rfl
theorem standbylaw32_step.bits39 : waitsOk standbylaw32_step.T39.2 standbylaw32_step.B39 = true := by kernel_rfl
end Go.Proofs.Ytedoloapddmanaa.PB
