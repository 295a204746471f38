-- Written by a program of this session (wip/tools) over the kit's print.
import Derived.Test.YtedoloapddmanaaPBx0
import Derived.Test.YtedoloapddmanaaSh
import Derived.Test.YtedoloapddmanaaSh2
import Derived.Test.YtedoloapddmanaaPBx2
import Derived.Test.YtedoloapddmanaaPBx7
import Derived.Test.YtedoloapddmanaaPBx8
import Derived.Test.YtedoloapddmanaaPBx10
import Derived.Test.YtedoloapddmanaaPBx11
import Derived.Test.YtedoloapddmanaaPBx25
import Derived.Test.YtedoloapddmanaaPBx299
namespace Go.Proofs.Ytedoloapddmanaa.PB
open Go.RowKit Go.Proofs.YtedoloapddmanaaW.PrintWords Go.Proofs.YtedoloapddmanaaW.PrintLast Go.Proofs.YtedoloapddmanaaW.PrintMore
attribute [local go_sem] max2_int min2_int max_two min_two max_three min_three max_four min_four   -- for this text's walks alone
set_option linter.unusedVariables false
set_option linter.unusedSimpArgs false

/-! ### standbylaw32_step: function 38 -/
set_option maxHeartbeats 8000000 in
set_option maxRecDepth 100000 in
theorem standbylaw32_step.calls2 (k : Nat) (a0 : Int) (a1 : Int) (b5 : Nat → Prop) (b3 : Option Addr) (bG : Nat) (aD : List Int) (a2 : Int) (aY : Int) (bM : Int) (bP : Int) (bQ : Int) (bN : Int) (aQ : Nat → Prop) (cF : Value) (aI : List Int) (aG : Nat → Prop) (cG : Value) (aA : List (S53)) (bE : Bool) (a4 : Int) (aU : Int) (r1 : Int) (r2 : Int) (r3 : List Int) (r4 : Int) (r5 : Int) (r6 : Int) (r7 : Int) (r8 : Int) (r9 : Int) (r10 : List Int) (r11 : List (S53)) (r12 : Bool) (w0 w : World) (hB : Below w0.heap.size w0 w) (sW : Kd.V (Kd.int .i64) 3 w w0.heap.size (fun k_ => b5 k_ ∧ some k_ ≠ (cF : Value).ownBlock ∧ some k_ ≠ (cG : Value).ownBlock) (.slice b3 aD.length bG) aD) (sX : Kd.R (Kd.int .i64) 3 w w0.heap.size aQ cF aI) (sO : Kd.R k53 53 w w0.heap.size aG cG aA) (h : standbylaw32_step.f k a0 a1 aD a2 aY bM bP bQ bN aI aA bE a4 aU = some (r1, r2, r3, r4, r5, r6, r7, r8, r9, r10, r11, r12)) (hx_ : Aside0 (Int.tmod a4 7 = 2)) :
  Calls Try.prog 38 #[.agg #[.int .i64 a0, .int .i64 a1, .slice b3 aD.length bG, .int .i64 a2, .int .i64 aY, .int .i64 bM, .int .i64 bP, .int .i64 bQ, .int .i64 bN, cF, cG, .bool bE], .agg #[.int .u8 a4, .int .u8 aU]] w fun e w' => ∃ v2_ v9_ v10_ : Value, e = .returned (.agg #[.int .i64 r1, .int .i64 r2, v2_, .int .i64 r4, .int .i64 r5, .int .i64 r6, .int .i64 r7, .int .i64 r8, .int .i64 r9, v9_, v10_, .bool r12]) ∧ Kd.V (Kd.int .i64) 3 w' w0.heap.size (fun k_ => ((aQ k_ ∨ aG k_ ∨ b5 k_) ∨ w.heap.size ≤ k_) ∧ some k_ ≠ (v9_ : Value).ownBlock ∧ some k_ ≠ (v10_ : Value).ownBlock) v2_ r3 ∧ Kd.R (Kd.int .i64) 3 w' w0.heap.size (fun k_ => ((aQ k_ ∨ aG k_) ∨ w.heap.size ≤ k_)) v9_ r10 ∧ Kd.R k53 53 w' w0.heap.size (fun k_ => ((aQ k_ ∨ aG k_) ∨ w.heap.size ≤ k_)) v10_ r11 ∧ Below w0.heap.size w0 w' ∧ Kept w w' (fun k_ => aQ k_ ∨ aG k_) := by
 have hu67 := Try.underlying67
 have hu71 := Try.underlying71
 have hu24 := Try.underlying24
 have hu26 := Try.underlying26
 have hu53 := Try.underlying53
 have b6 := Aside0.mk (show Kd.V (Kd.int .i64) 3 w w0.heap.size (fun k_ => ((aQ k_ ∨ aG k_ ∨ b5 k_) ∨ w.heap.size ≤ k_) ∧ some k_ ≠ (cF : Value).ownBlock ∧ some k_ ≠ (cG : Value).ownBlock) (.slice b3 aD.length bG) aD from Kd.V_mono sW (fun k_ hk => ⟨.inl (.inr (.inr hk.1)), hk.2⟩))
 have bX := Aside0.mk (show Kd.R (Kd.int .i64) 3 w w0.heap.size (fun k_ => ((aQ k_ ∨ aG k_) ∨ w.heap.size ≤ k_)) cF aI from Kd.R_mono sX (fun k_ hk => (.inl (.inl hk))))
 have bR := Aside0.mk (show Kd.R k53 53 w w0.heap.size (fun k_ => ((aQ k_ ∨ aG k_) ∨ w.heap.size ≤ k_)) cG aA from Kd.R_mono sO (fun k_ hk => (.inl (.inr hk))))
 have HK := Aside0.mk (Kept.refl w (fun k_ => aQ k_ ∨ aG k_))
 have HW0 := Aside0.mk hB.size
 have HB := Aside0.mk hB
 clear hB
 have H := h
 unfold standbylaw32_step.f at H
 clear h
 by_cases c3 : (Int.tmod a4 7) = 0
 ·exact absurd (c3.symm.trans hx_.out) (by decide)
 ·rw [if_neg c3] at H
  have c3b0 : ((Int.tmod a4 7) == 0) = false := beq_eq_false_iff_ne.mpr c3
  have c3b1 : ((Int.tmod a4 7) != 0) = true := bne_iff_ne.mpr c3
  by_cases c70 : (Int.tmod a4 7) = 1
  ·exact absurd (c70.symm.trans hx_.out) (by decide)
  ·rw [if_neg c70] at H
   have sY : ((Int.tmod a4 7) == 1) = false := beq_eq_false_iff_ne.mpr c70
   have sZ : ((Int.tmod a4 7) != 1) = true := bne_iff_ne.mpr c70
   by_cases c122 : (Int.tmod a4 7) = 2
   ·rw [if_pos c122] at H
    have sQ : ((Int.tmod a4 7) == 2) = true := beq_iff_eq.mpr c122
    have sR : ((Int.tmod a4 7) != 2) = false := bne_eq_false_iff_eq.mpr c122
    clear c122
    have H' := Aside0.mk H
    clear H
    obtain ⟨bA, bB, s0⟩ := Kd.R_slice bX.out
    subst s0
    obtain ⟨bJ, bK, s1⟩ := Kd.R_slice bR.out
    subst s1
    go_enter Try.func38, Try.ntmps38
    go_wp2_with (first | ((with_reducible refine gate_dst (N := 2) rfl ?_); refine box_event ?hg (N := 2) ?hd (cs := #[.int .i64 a0, .int .i64 a1, .slice b3 aD.length bG, .int .i64 a2, .int .i64 aY, .int .i64 bM, .int .i64 bP, .int .i64 bQ, .int .i64 bN, .slice bA aI.length bB, .slice bJ aA.length bK, .bool bE]) (t := 67) ?hr ?_; (case hd => rfl); (case hg => rfl); (case hr => first | (go_simp; done) | (go_simp; rfl)); intro aZ hg w125 hbox hb; replace bX := tR bX hb; replace bR := tR bR hb; replace b6 := Aside0.mk (Kd.V_below (Kd.V_elderB (mV b6.out) aZ (Nat.le_of_eq hg.symm)) hb); have aC := Aside0.mk (hbox); have GW575 := gS HK hg; replace HK := tE HK hb; have GE575 := gZ HB hg; replace HB := tB HB hb; clear hb hbox hg) | ((with_reducible refine gate_dst (N := 3) rfl ?_); refine box_event ?hg (N := 3) ?hd (cs := #[.int .u8 a4, .int .u8 aU]) (t := 71) ?hr ?_; (case hd => rfl); (case hg => rfl); (case hr => first | (go_simp; done) | (go_simp; rfl)); intro bO hg w126 hbox hb; replace bX := tR bX hb; replace bR := tR bR hb; replace b6 := Aside0.mk (Kd.V_below (Kd.V_elderB (mV b6.out) bO (Nat.le_of_eq hg.symm)) hb); have aN := Aside0.mk (hbox); have GW576 := gS HK hg; replace HK := tE HK hb; have GE576 := gZ HB hg; replace HB := tB HB hb; have bH := nL aC hg; have a5 := nG aC hg; replace aC := tK aC hb; clear hb hbox hg) | ((with_reducible refine gate_dst (N := 4) rfl ?_); refine box_event ?hg (N := 4) ?hd (cs := #[.int .i64 0, .int .i64 0, .slice none 0 0, .int .i64 0, .int .i64 0, .int .i64 0, .int .i64 0, .int .i64 0, .int .i64 0, .slice none 0 0, .slice none 0 0, .bool false]) (t := 67) ?hr ?_; (case hd => rfl); (case hg => rfl); (case hr => first | (go_simp; done) | (go_simp; rfl)); intro bC hg w127 hbox hb; replace bX := tR bX hb; replace bR := tR bR hb; replace b6 := Aside0.mk (Kd.V_below (Kd.V_elderB (mV b6.out) bC (Nat.le_of_eq hg.symm)) hb); have aT := Aside0.mk (hbox); have GW577 := gS HK hg; replace HK := tE HK hb; have GE577 := gZ HB hg; replace HB := tB HB hb; have bI := nL aC hg; have a3 := nG aC hg; replace aC := tK aC hb; have b0 := nL aN hg; have b1 := nG aN hg; replace aN := tK aN hb; clear hb hbox hg; have hnb128 := a5.out; have hnc128 := bH.out; have hnb129 := b0.out; have hnc129 := b1.out; have eC : w127.cell? ⟨bO, 0, none⟩ = some (.int .u8 a4) := (blk_cell aN.out 0).trans rfl; have eD : w127.cell? ⟨bO, 1, none⟩ = some (.int .u8 aU) := (blk_cell aN.out 1).trans rfl; have cR := blk_frozen aN.out 0; have cS := blk_frozen aN.out 1; have hnb131 := bI.out; have hnc131 := a3.out; obtain ⟨eE, eF, eG, eH, eI, eJ, eK, eL, eM, eN, dE, dF⟩ := cz12 aC.out; obtain ⟨cT, cU, cV, cW, cX, cY, cZ, c0, dA, dB, cO, cP⟩ := fz12 aC.out))
    go_loopg [5, 15] k (fun kq v5 v15 w' => ∃ (bW : List (S53)) (aX : Int) (aV : Int) (aW : Int) (aJ : Int) (aK : Int) (aH : Bool), v15 = .int .i64 aX ∧ Aside0 (standbylaw32_step.l1 kq bW aX a0 a1 aD a2 aY aV aW aJ aK aI aA aH a4 aU = some (r1, r2, r3, r4, r5, r6, r7, r8, r9, r10, r11, r12)) ∧ Aside0 (kq ≤ k) ∧ Aside0 (Kd.R k53 53 w' w0.heap.size (fun k_ => ((aQ k_ ∨ aG k_) ∨ w.heap.size ≤ k_) ∧ some k_ ≠ ((.slice bJ aA.length bK) : Value).ownBlock) v5 bW) ∧ Aside0 (Kd.V (Kd.int .i64) 3 w' w0.heap.size (fun k_ => ((aQ k_ ∨ aG k_ ∨ b5 k_) ∨ w.heap.size ≤ k_) ∧ some k_ ≠ (v5 : Value).ownBlock ∧ some k_ ≠ ((.slice bA aI.length bB) : Value).ownBlock ∧ some k_ ≠ ((.slice bJ aA.length bK) : Value).ownBlock ∧ k_ ≠ aZ ∧ k_ ≠ bO ∧ k_ ≠ bC) (.slice b3 aD.length bG) aD) ∧ Aside0 (Kd.R (Kd.int .i64) 3 w' w0.heap.size (fun k_ => ((aQ k_ ∨ aG k_) ∨ w.heap.size ≤ k_)) (.slice bA aI.length bB) aI) ∧ Aside0 (Kd.R k53 53 w' w0.heap.size (fun k_ => ((aQ k_ ∨ aG k_) ∨ w.heap.size ≤ k_) ∧ some k_ ≠ (v5 : Value).ownBlock) (.slice bJ aA.length bK) aA) ∧ Aside0 (w'.heap[aZ]? = some (.cells #[.int .i64 a0, .int .i64 a1, (.slice b3 aD.length bG), .int .i64 a2, .int .i64 aY, .int .i64 aV, .int .i64 aW, .int .i64 aJ, .int .i64 aK, (.slice bA aI.length bB), (.slice bJ aA.length bK), .bool aH] 67 (0, 0))) ∧ Aside0 (w'.heap[bO]? = some (.cells #[.int .u8 a4, .int .u8 aU] 71 (0, 0))) ∧ Aside0 (w'.heap[bC]? = some (.cells #[.int .i64 0, .int .i64 0, (.slice none 0 0), .int .i64 0, .int .i64 0, .int .i64 0, .int .i64 0, .int .i64 0, .int .i64 0, (.slice none 0 0), (.slice none 0 0), .bool false] 67 (0, 0))) ∧ Aside0 (Kept w w' (fun k_ => aQ k_ ∨ aG k_)) ∧ Aside0 (Below w0.heap.size w0 w'))
    case atStart => exact ⟨(([] : List (S53))), (wrap64 ((aD.length : Int) - 1)), (bM), (bP), (bQ), (bN), (bE), (by first | rfl | (simp; done) | (simp [*]; done)), H', ⟨Nat.le_refl _⟩, ⟨by first | exact Kd.R_nil _ _ _ _ _ | exact Kd.N_nil _ _ _ _ _ | exact Kd.V_nil _ _ _ _ _ | exact Kd.Q_nil _ _ _ _ _ | exact Kd.S_nil _ _ _ _ _⟩, ⟨by refine mV ?_; exact Kd.V_mono b6.out (fun _ hk => ⟨hk.1.1.1.1, ⟨(by simp [Value.ownBlock]), ⟨hk.1.1.1.2.1, ⟨hk.1.1.1.2.2, ⟨hk.1.1.2, ⟨hk.1.2, hk.2⟩⟩⟩⟩⟩⟩)⟩, ⟨by refine mR ?_; exact bX.out⟩, ⟨by refine mR ?_; exact Kd.R_mono bR.out (fun _ hk => ⟨hk, (by simp [Value.ownBlock])⟩)⟩, ⟨by refine mK ?_; exact aC.out⟩, ⟨by refine mK ?_; exact aN.out⟩, ⟨by refine mK ?_; exact aT.out⟩, ⟨kK HK.out⟩, ⟨kB HB.out⟩⟩
    case round =>
     clear H'
     try clear c1
     try clear c2
     try clear p2
     try clear c3
     try clear c3b0
     try clear c3b1
     try clear c4
     try clear c4b0
     try clear c4b1
     try clear c5
     try clear p5
     try clear q5
     try clear hx5
     try clear c6
     try clear c6b0
     try clear p6
     try clear q6
     try clear hx6
     try clear c7
     try clear c7b0
     try clear c8
     try clear c9
     try clear c9b0
     try clear c9b1
     try clear c10
     try clear c11
     try clear c12
     try clear c13
     try clear c17
     try clear c18
     try clear c20
     try clear c22
     try clear c24
     try clear c25
     try clear c26
     try clear c31
     try clear c38
     try clear c40
     try clear c40b0
     try clear c40b1
     try clear c41
     try clear c42
     try clear c48
     try clear c49
     try clear c51
     try clear c55
     try clear c56
     try clear c57
     try clear p57
     try clear q57
     try clear hx57
     try clear p61
     try clear q61
     try clear hx61
     try clear p64
     try clear c70
     try clear sY
     try clear sZ
     try clear c76
     try clear c77
     try clear c79
     try clear c79b0
     try clear c80
     try clear c80b0
     try clear c82
     try clear c83
     try clear c85
     try clear c85b0
     try clear c86
     try clear c87
     try clear c89
     try clear c90
     try clear c92
     try clear c94
     try clear c94b0
     try clear c94b1
     try clear c95
     try clear c96
     try clear c97
     try clear c101
     try clear c102
     try clear c103
     try clear c110
     try clear c112
     try clear c113
     try clear c114
     try clear c120
     try clear c122
     try clear sQ
     try clear sR
     try clear c128
     try clear c129
     try clear c131
     try clear uG uH uI uJ
     try clear uK uL s8 s9 uM uN uO uP uQ uR uS uT
     try clear uU uV tA tC uW uX uY uZ u0 u1 u2 u3
     try clear u4 u6 tD tF u7 u9 vA vB vC vD vE vF
     try clear vG vH tG tH vI vJ vK vL vM vN vO vP
     try clear vQ vR tI tJ vS vT vU vV vW vX vY vZ
     try clear v0 v1 tL tM v2 v3 v4 v6 v7 v8 v9 wA
     try clear eC eD
     try clear eE eF dE dF eG eH eI eJ eK eL eM eN
     try clear AR AS
     try clear AT AU wB wC AV AW AX AY AZ A0 A1 A2
     try clear A3 A4 A5 A6 A7
     try clear A8 A9 wD wE BA BB BC BD BE BF BG BH
     try clear BI BJ
     try clear BK BL wF wG BM BN BO BP BQ BR BS BT
     try clear BU BV wH wI BW BX BY BZ B0 B1 B2 B3
     try clear B4 B5 wJ wK B6 B7 B8 B9 kJ kL kM kN
     try clear kO kP
     try clear kQ kR eO eP kT kU kV kW kX kY k0 k2
     try clear k3 k4 k5 k6 k7
     try clear k8 k9 eQ eR lA lB lC lD lE lF lG lH
     try clear lI lJ
     try clear lK lL eS eT lM lN lO lP lQ lR lS lT
     try clear lU lV eU eV lW lX lY lZ l2 l3 l4 l5
     try clear l6 l7 eW eX l8 l9 mA mB mC mD mE mF
     try clear mG mH
     try clear mI mJ eY eZ mL mM mN mO mP mQ mS mT
     try clear mU mW e0 e1 mX mY mZ m0 m1 m2 m3 m4
     try clear m5 m6 e2 e3 m7 m8 m9 nA nB nC nD nE
     try clear nF nH e4 e5 nI nJ nK nM nN nO nP nQ
     try clear e6 e7 e8 e9
     try clear fA fB dG dH fC fD fE fF fG fH fI fJ
     try clear fK fL dI dJ fM fN fO fP fQ fR fS fT
     try clear fU fV dK dL fW fX fY fZ f8 f9 gA gB
     try clear gC gD dM dN gE gF gG gH gI gJ gK gL
     try clear gM gN dO dP gO gP gQ gR gT gU gV gW
     try clear gX gY dQ dR g0 g1 g2 g3 g4 g5 g6 g7
     try clear cR cS
     try clear cT cU cO cP cV cW cX cY cZ c0 dA dB
     try clear nR nS
     try clear nT nU g8 g9 nV nW nX nY nZ n0 n1 n2
     try clear n3 n4 n5 n6 n7
     try clear n8 n9 hA hC oA oB oC oD oE oF oG oH
     try clear oI oJ
     try clear oK oL hD hE oM oN oO oP oQ oR oS oT
     try clear oU oV hF hG oW oX oY oZ o0 o1 o2 o3
     try clear o4 o5 hH hI o6 o7 o8 o9 pA pB pC pD
     try clear pE pF
     try clear pG pH hJ hK pI pJ pK pL pM pN pO pP
     try clear pQ pR pS pT pU
     try clear pV pW hL hM pX pY pZ p0 p1 p3 p4 p7
     try clear p8 p9
     try clear qA qB hN hO qC qD qE qF qG qH qI qJ
     try clear qK qL hP hQ qM qN qO qP qQ qR qS qT
     try clear qU qV hR hS qW qX qY qZ q0 q1 q2 q3
     try clear q4 q7
     try clear q8 q9 hT hU rA rB rC rD rE rF rG rH
     try clear rI rJ hV hW rK rL rM rN rO rP rQ rR
     try clear rS rT hX hY rU rV rW rX rY rZ r0 sA
     try clear sB sC hZ h0 sD sE sF sG sH sI sJ sK
     try clear sL
     try clear sM
     try clear p2
     try clear p5
     try clear p57
     try clear p578
     try clear p6
     try clear p61
     try clear p618
     try clear p64
     try clear q5
     try clear q57
     try clear q578
     try clear q6
     try clear q61
     try clear q618
     obtain ⟨bW, aX, aV, aW, aJ, aK, aH, rfl, HA, HK1, bD, aM, aP, aE, aC, aN, aT, HK, HB⟩ := hrel
     cases gk with
     | zero => exact absurd HA.out (by simp [standbylaw32_step.l1])
     | succ k1 =>
      have H := HA.out
      clear HA
      simp only [standbylaw32_step.l1] at H
      by_cases c133 : aX ≥ 0
      ·rw [if_pos c133] at H
       have dS : decide (0 ≤ aX) = true := decide_eq_true c133
       clear c133
       by_cases c134 : 0 ≤ aX
       ·rw [if_pos c134] at H
        have sS : decide (0 ≤ aX) = true := decide_eq_true c134
        clear c134
        by_cases c135 : aX < (aD.length : Int)
        ·rw [if_pos c135] at H
         have sT : decide (aX < (aD.length : Int)) = true := decide_eq_true c135
         clear c135
         have HC136 := Aside0.mk H
         clear H
         have hnb137 := bH.out
         have hnc137 := a5.out
         have hnb138 := bI.out
         have hnc138 := a3.out
         obtain ⟨h1, h2, h3, h4, h5, h6, h7, h8, h9, iA, dT, dU⟩ := cz12 aC.out
         obtain ⟨iB, iC, iD, iE, iF, iG, iH, iI, iJ, iK, dV, dW⟩ := fz12 aC.out
         have p637 : 0 ≤ (aX : Int) := of_decide_eq_true (by first | (with_reducible assumption) | assumption)
         have q637 : aX < (aD.length : Int) := of_decide_eq_true (by first | (with_reducible assumption) | assumption)
         obtain ⟨b8, e637, sN⟩ := Kd.at_int (Kd.V_reads' aM.out).2.2 aX p637 q637
         cases e637
         replace p637 := eq_true p637
         replace q637 := eq_true q637
         go_upto_region 29 with (fail)
         go_cut [178] (fun wL wc => ∃ (kq : Nat) (b9 : Bool), wL = .bool b9 ∧ Aside0 (standbylaw32_step.j3 kq bW aX (rd aD aX) b9 a0 a1 aD a2 aY aV aW aJ aK aI aA aH a4 aU = some (r1, r2, r3, r4, r5, r6, r7, r8, r9, r10, r11, r12)) ∧ Aside0 (kq ≤ k1) ∧ Aside0 (Kd.R k53 53 wc w0.heap.size (fun k_ => ((aQ k_ ∨ aG k_) ∨ w.heap.size ≤ k_) ∧ some k_ ≠ ((.slice bJ aA.length bK) : Value).ownBlock) u5 bW) ∧ Aside0 (Kd.V (Kd.int .i64) 3 wc w0.heap.size (fun k_ => ((aQ k_ ∨ aG k_ ∨ b5 k_) ∨ w.heap.size ≤ k_) ∧ some k_ ≠ (u5 : Value).ownBlock ∧ some k_ ≠ ((.slice bA aI.length bB) : Value).ownBlock ∧ some k_ ≠ ((.slice bJ aA.length bK) : Value).ownBlock ∧ k_ ≠ aZ ∧ k_ ≠ bO ∧ k_ ≠ bC) (.slice (some b8) aD.length bG) aD) ∧ Aside0 (Kd.R (Kd.int .i64) 3 wc w0.heap.size (fun k_ => ((aQ k_ ∨ aG k_) ∨ w.heap.size ≤ k_)) (.slice bA aI.length bB) aI) ∧ Aside0 (Kd.R k53 53 wc w0.heap.size (fun k_ => ((aQ k_ ∨ aG k_) ∨ w.heap.size ≤ k_) ∧ some k_ ≠ (u5 : Value).ownBlock) (.slice bJ aA.length bK) aA) ∧ Aside0 (wc.heap[aZ]? = some (.cells #[.int .i64 a0, .int .i64 a1, (.slice (some b8) aD.length bG), .int .i64 a2, .int .i64 aY, .int .i64 aV, .int .i64 aW, .int .i64 aJ, .int .i64 aK, (.slice bA aI.length bB), (.slice bJ aA.length bK), .bool aH] 67 (0, 0))) ∧ Aside0 (wc.heap[bO]? = some (.cells #[.int .u8 a4, .int .u8 aU] 71 (0, 0))) ∧ Aside0 (wc.heap[bC]? = some (.cells #[.int .i64 0, .int .i64 0, (.slice none 0 0), .int .i64 0, .int .i64 0, .int .i64 0, .int .i64 0, .int .i64 0, .int .i64 0, (.slice none 0 0), (.slice none 0 0), .bool false] 67 (0, 0))) ∧ Aside0 (Kept w wc (fun k_ => aQ k_ ∨ aG k_)) ∧ Aside0 (Below w0.heap.size w0 wc))
         case first =>
          have H := HC136.out
          clear HC136
          by_cases c140 : (rd aD aX) > aK
          ·rw [if_pos c140] at H
           have b4 : decide (aK < (rd aD aX)) = true := decide_eq_true c140
           clear c140
           (first | rw [b4] | (simp only [i64_w, i32_w]; rw [b4]) | skip)
           by_cases c141 : (rd aD aX) ≤ aJ
           ·rw [if_pos c141] at H
            have dX : decide ((rd aD aX) ≤ aJ) = true := decide_eq_true c141
            clear c141
            have H' := Aside0.mk H
            clear H
            have hnb142 := bH.out
            have hnc142 := a5.out
            have hnb143 := bI.out
            have hnc143 := a3.out
            obtain ⟨iL, iM, iN, iO, iP, iQ, iR, iS, iT, iU, dY, dZ⟩ := cz12 aC.out
            obtain ⟨iV, iW, iX, iY, iZ, i0, i1, i2, i3, i4, d0, d1⟩ := fz12 aC.out
            have hnb145 := b0.out
            have hnc145 := b1.out
            have i5 : wr.cell? ⟨bO, 0, none⟩ = some (.int .u8 a4) := (blk_cell aN.out 0).trans rfl
            have i6 : wr.cell? ⟨bO, 1, none⟩ = some (.int .u8 aU) := (blk_cell aN.out 1).trans rfl
            have i7 := blk_frozen aN.out 0
            have i8 := blk_frozen aN.out 1
            go_wp2
            go_meet
            case rel => exact ⟨_, (((((aU + ((aX) % 256)) % 256) % 2) == 0)), (by first | rfl | (simp; done) | (simp [*]; done)), H', ⟨by have := HK1.out; first | omega | exact Nat.le_refl _⟩, ⟨by refine mR ?_; exact bD.out⟩, ⟨by refine mV ?_; exact aM.out⟩, ⟨by refine mR ?_; exact aP.out⟩, ⟨by refine mR ?_; exact aE.out⟩, ⟨by refine mK ?_; exact aC.out⟩, ⟨by refine mK ?_; exact aN.out⟩, ⟨by refine mK ?_; exact aT.out⟩, ⟨kK HK.out⟩, ⟨kB HB.out⟩⟩
           ·rw [if_neg c141] at H
            have dX : decide ((rd aD aX) ≤ aJ) = false := decide_eq_false c141
            clear c141
            have H' := Aside0.mk H
            clear H
            have hnb147 := bH.out
            have hnc147 := a5.out
            have hnb148 := bI.out
            have hnc148 := a3.out
            obtain ⟨i9, jA, jB, jC, jD, jE, jF, jG, jH, jI, d2, d3⟩ := cz12 aC.out
            obtain ⟨jJ, jK, jL, jM, jN, jO, jP, jQ, jR, jS, d4, d5⟩ := fz12 aC.out
            go_wp2
            go_meet
            case rel => exact ⟨_, (false), (by first | rfl | (simp; done) | (simp [*]; done)), H', ⟨by have := HK1.out; first | omega | exact Nat.le_refl _⟩, ⟨by refine mR ?_; exact bD.out⟩, ⟨by refine mV ?_; exact aM.out⟩, ⟨by refine mR ?_; exact aP.out⟩, ⟨by refine mR ?_; exact aE.out⟩, ⟨by refine mK ?_; exact aC.out⟩, ⟨by refine mK ?_; exact aN.out⟩, ⟨by refine mK ?_; exact aT.out⟩, ⟨kK HK.out⟩, ⟨kB HB.out⟩⟩
          ·rw [if_neg c140] at H
           have b4 : decide (aK < (rd aD aX)) = false := decide_eq_false c140
           clear c140
           (first | rw [b4] | (simp only [i64_w, i32_w]; rw [b4]) | skip)
           have H' := Aside0.mk H
           clear H
           have hnb150 := bH.out
           have hnc150 := a5.out
           have hnb151 := bI.out
           have hnc151 := a3.out
           obtain ⟨jT, jU, jV, jW, jX, jY, jZ, j0, j1, j2, d6, d7⟩ := cz12 aC.out
           obtain ⟨j4, j5, j6, j7, j8, j9, kA, kC, kD, kE, d8, d9⟩ := fz12 aC.out
           go_wp2
           go_meet
           case rel => exact ⟨_, (false), (by first | rfl | (simp; done) | (simp [*]; done)), H', ⟨by have := HK1.out; first | omega | exact Nat.le_refl _⟩, ⟨by refine mR ?_; exact bD.out⟩, ⟨by refine mV ?_; exact aM.out⟩, ⟨by refine mR ?_; exact aP.out⟩, ⟨by refine mR ?_; exact aE.out⟩, ⟨by refine mK ?_; exact aC.out⟩, ⟨by refine mK ?_; exact aN.out⟩, ⟨by refine mK ?_; exact aT.out⟩, ⟨kK HK.out⟩, ⟨kB HB.out⟩⟩
         case rest =>
          clear HC136
          try clear c1
          try clear p2
          try clear p5
          try clear q5
          try clear hx5
          try clear p6
          try clear q6
          try clear hx6
          try clear c13
          try clear c14
          try clear c15
          try clear p57
          try clear q57
          try clear hx57
          try clear p61
          try clear q61
          try clear hx61
          try clear p63
          try clear q63
          try clear hx63
          try clear p64
          try clear c133
          try clear dS
          try clear c134
          try clear sS
          try clear c135
          try clear sT
          try clear c137
          try clear c138
          try clear c140
          try clear b4
          try clear c141
          try clear dX
          try clear c142
          try clear c143
          try clear c145
          try clear c147
          try clear c148
          try clear c150
          try clear c151
          try clear h1 h2 dT dU h3 h4 h5 h6 h7 h8 h9 iA
          try clear iL iM dY dZ iN iO iP iQ iR iS iT iU
          try clear i5 i6
          try clear i9 jA d2 d3 jB jC jD jE jF jG jH jI
          try clear jT jU d6 d7 jV jW jX jY jZ j0 j1 j2
          try clear kJ kL kM kN
          try clear kO kP
          try clear kQ kR eO eP kT kU kV kW kX kY k0 k2
          try clear k3 k4 k5 k6 k7
          try clear k8 k9 eQ eR lA lB lC lD lE lF lG lH
          try clear lI lJ
          try clear lK lL eS eT lM lN lO lP lQ lR lS lT
          try clear lU lV eU eV lW lX lY lZ l2 l3 l4 l5
          try clear l6 l7 eW eX l8 l9 mA mB mC mD mE mF
          try clear mG mH
          try clear mI mJ eY eZ mL mM mN mO mP mQ mS mT
          try clear mU mW e0 e1 mX mY mZ m0 m1 m2 m3 m4
          try clear m5 m6 e2 e3 m7 m8 m9 nA nB nC nD nE
          try clear nF nH e4 e5 nI nJ nK nM nN nO nP nQ
          try clear e6 e7 e8 e9
          try clear fA fB dG dH fC fD fE fF fG fH fI fJ
          try clear fK fL dI dJ fM fN fO fP fQ fR fS fT
          try clear fU fV dK dL fW fX fY fZ f8 f9 gA gB
          try clear gC gD dM dN gE gF gG gH gI gJ gK gL
          try clear gM gN dO dP gO gP gQ gR gT gU gV gW
          try clear gX gY dQ dR g0 g1 g2 g3 g4 g5 g6 g7
          try clear cR cS
          try clear cT cU cO cP cV cW cX cY cZ c0 dA dB
          try clear iB iC dV dW iD iE iF iG iH iI iJ iK
          try clear iV iW d0 d1 iX iY iZ i0 i1 i2 i3 i4
          try clear i7 i8
          try clear jJ jK d4 d5 jL jM jN jO jP jQ jR jS
          try clear j4 j5 d8 d9 j6 j7 j8 j9 kA kC kD kE
          try clear nR nS
          try clear nT nU g8 g9 nV nW nX nY nZ n0 n1 n2
          try clear n3 n4 n5 n6 n7
          try clear n8 n9 hA hC oA oB oC oD oE oF oG oH
          try clear oI oJ
          try clear oK oL hD hE oM oN oO oP oQ oR oS oT
          try clear oU oV hF hG oW oX oY oZ o0 o1 o2 o3
          try clear o4 o5 hH hI o6 o7 o8 o9 pA pB pC pD
          try clear pE pF
          try clear pG pH hJ hK pI pJ pK pL pM pN pO pP
          try clear pQ pR pS pT pU
          try clear pV pW hL hM pX pY pZ p0 p1 p3 p4 p7
          try clear p8 p9
          try clear qA qB hN hO qC qD qE qF qG qH qI qJ
          try clear qK qL hP hQ qM qN qO qP qQ qR qS qT
          try clear qU qV hR hS qW qX qY qZ q0 q1 q2 q3
          try clear q4 q7
          try clear q8 q9 hT hU rA rB rC rD rE rF rG rH
          try clear rI rJ hV hW rK rL rM rN rO rP rQ rR
          try clear rS rT hX hY rU rV rW rX rY rZ r0 sA
          try clear sB sC hZ h0 sD sE sF sG sH sI sJ sK
          try clear sL
          try clear sM
          try clear sN
          try clear p2
          try clear p5
          try clear p57
          try clear p578
          try clear p6
          try clear p61
          try clear p618
          try clear p637
          try clear p64
          try clear q5
          try clear q57
          try clear q578
          try clear q6
          try clear q61
          try clear q618
          try clear q637
          obtain ⟨kq, b9, rfl, HA, HJ135, bD, aM, aP, aE, aC, aN, aT, HK, HB⟩ := hcut
          cases kq with
          | zero => exact absurd HA.out (by simp [standbylaw32_step.j3])
          | succ kj135 =>
           have H := HA.out
           clear HA
           simp only [standbylaw32_step.j3] at H
           by_cases c153 : b9 = true
           ·subst c153
            have H1 : ((commit_Apply.f kj135 aV aW aJ aK (rd aD aX)).bind fun cA => (if cA.2.2.2.2.2 = 0 then (if aA.length + cA.2.2.2.2.1.length < 1466015503701 then (some (a0, a1, aD, a2, aY, cA.1, cA.2.1, cA.2.2.1, cA.2.2.2.1, aI, (aA ++ cA.2.2.2.2.1), aH)) else (none)) else (none))) = some (r1, r2, r3, r4, r5, r6, r7, r8, r9, r10, r11, r12) := by rw [if_pos rfl] at H; exact H
            clear H
            have H := H1
            clear H1
            replace H := Option.bind_eq_some_iff.mp H
            obtain ⟨⟨a6, a7, a8, a9, cH, dC⟩, A1540, H⟩ := H
            (try dsimp only at H)
            have A154 := Aside0.mk A1540
            clear A1540
            by_cases c155 : dC = 0
            ·rw [if_pos c155] at H
             have c155b0 : (dC == 0) = true := beq_iff_eq.mpr c155
             have c155b1 : (dC != 0) = false := bne_eq_false_iff_eq.mpr c155
             clear c155
             by_cases c156 : aA.length + cH.length < 1466015503701
             ·rw [if_pos c156] at H
              have sU := Aside0.mk c156
              clear c156
              obtain ⟨cI, cM⟩ : ∃ y_ : List (S53), y_ = (aA ++ cH) := ⟨_, rfl⟩
              replace H : (some (a0, a1, aD, a2, aY, a6, a7, a8, a9, aI, cI, aH)) = some (r1, r2, r3, r4, r5, r6, r7, r8, r9, r10, r11, r12) := by first | (rw [cM]; with_reducible exact H) | (have H2_ := (Option.bind_some _ _).symm.trans H; rw [cM]; with_reducible exact H2_) | (have H2_ := (Option.bind_some _ _).symm.trans H; with_reducible exact H2_) | with_reducible exact H | (rw [cM]; exact H) | exact H
              have s2 := Aside0.mk cM
              clear cM
              simp only [Option.some.injEq, Prod.mk.injEq] at H
              obtain ⟨rfl, rfl, rfl, rfl, rfl, rfl, rfl, rfl, rfl, rfl, rfl, rfl⟩ := H
              have hnb157 := bH.out
              have hnc157 := a5.out
              have hnb158 := bI.out
              have hnc158 := a3.out
              obtain ⟨wM, wN, wO, wP, wQ, wR, wS, wT, wU, wV, tN, tO⟩ := cz12 aC.out
              obtain ⟨wW, wX, wY, wZ, w1, w2, w3, w4, w5, w6, tP, tQ⟩ := fz12 aC.out
              go_wp2_with (first | ((with_reducible refine gate_callee (f := 33) rfl ?_); refine goesL_ (some 183) rfl rfl Try.func33 (by kernel_rfl) rfl #[.agg #[.int .i64 aV, .int .i64 aW, .int .i64 aJ, .int .i64 aK], .int .i64 (rd aD aX)] rfl (by (try simp only [List.map_toArray, List.map_cons, List.map_nil]); first | done | rfl | (simp only [List.length_drop, List.length_take]; rfl)) ?_; (with_reducible refine (commit_Apply.calls kj135 aV aW aJ aK (rd aD aX) a6 a7 a8 a9 cH dC _ A154.out).mono ?_); rintro e w160 ⟨v643, rfl, ho0, hb⟩; refine ⟨_, rfl, ?_⟩; replace aM := Aside0.mk (Kd.V_elder' (mV aM.out) (Kd.R_base ho0) hb); replace aP := tR aP hb; have b2 := Aside0.mk (Kd.R_lower (Kd.R_new' (Kd.R_new' (Kd.R_newM (M := fun k_ => ((aQ k_ ∨ aG k_) ∨ w.heap.size ≤ k_)) ho0 (kS HK.out) (fun k_ h_ => .inr h_)) (Kd.R_lt (mR bD.out))) (Kd.R_lt (mR aE.out))) (kZ HB.out)); replace bD := Aside0.mk (Kd.R_elder' (mR bD.out) (Kd.R_base ho0) hb); replace aE := Aside0.mk (Kd.R_elder' (mR aE.out) (Kd.R_base ho0) hb); replace aC := tK aC hb; replace aN := tK aN hb; replace aT := tK aT hb; replace HK := tE HK hb; replace HB := tB HB hb; (try clear hb); (try clear hb2); (try clear hk); (try clear hi); (try clear ho0)) | ((with_reducible refine gate_dst (N := 17) rfl ?_); refine box_event ?hg (N := 17) ?hd (cs := #[.int .i64 0, .int .i64 0, .int .i64 0, .int .i64 0]) (t := 26) ?hr ?_; (case hd => rfl); (case hg => rfl); (case hr => first | (go_simp; done) | (go_simp; rfl)); intro bL hg w161 hbox hb; replace bD := tR bD hb; replace aM := Aside0.mk (Kd.V_below (Kd.V_elderB (mV aM.out) bL (Nat.le_of_eq hg.symm)) hb); replace aP := tR aP hb; replace aE := tR aE hb; replace b2 := tR b2 hb; have bF := Aside0.mk (hbox); have GW646 := gS HK hg; replace HK := tE HK hb; have GE646 := gZ HB hg; replace HB := tB HB hb; have bS := nL aC hg; have bT := nG aC hg; replace aC := tK aC hb; have bU := nL aN hg; have eA := nG aN hg; replace aN := tK aN hb; have bV := nL aT hg; have eB := nG aT hg; replace aT := tK aT hb; clear hb hbox hg; have hnb162 := bT.out; have hnc162 := bS.out; have hnb163 := eA.out; have hnc163 := bU.out; have hnb164 := eB.out; have hnc164 := bV.out; obtain ⟨w7, w8, w9, xA⟩ := cz4 bF.out; obtain ⟨xB, xC, xD, xE⟩ := fz4 bF.out; obtain ⟨xF, xG, xH, xI, xJ, xK, xL, xM, xN, xO, tS, tT⟩ := cz12 aC.out; obtain ⟨xP, xQ, xR, xS, xT, xU, xV, xW, xX, xY, tU, tV⟩ := fz12 aC.out; obtain ⟨dD, cQ, s3⟩ := Kd.R_slice b2.out; subst s3) | ((with_reducible refine gate_builtin (b := .append) (xs := #[.tmp 247, .tmp 248]) rfl ?_); at_builtin; refine Kd.R_append_rows k53 (w0 := w0) w0.heap.size rfl (.tmp 247) (.tmp 248) 43 53 (.agg #[(.int .i64 0), (.int .i64 0), (.int .i64 0), (.int .i64 0), (.int .i64 0), (.int .i64 0), (.slice none 0 0), (.slice none 0 0)]) 96 rfl Try.underlying43 info53 rfl (by decide) (by omega) (.slice bJ aA.length bK) aA cH _ _ _ (fun k_ => ((aQ k_ ∨ aG k_) ∨ w.heap.size ≤ k_) ∧ some k_ ≠ (u5 : Value).ownBlock ∧ some k_ ≠ (.slice dD cH.length cQ : Value).ownBlock) (fun _ => False) rfl rfl ?aO ?aR (fun _ _ h => h) (fun _ h => h.elim) ?aF ?aB ?aS ?aL ?_; (case aR => refine (Kd.R_reads' (e := 53) (base := w0.heap.size) (ok := fun k_ => (((((aQ k_ ∨ aG k_) ∨ w.heap.size ≤ k_) ∧ True) ∧ some k_ ≠ (u5 : Value).ownBlock) ∧ some k_ ≠ (.slice bJ aA.length bK : Value).ownBlock)) (n := cH.length) (c := cQ) ?_).2.2; exact (mR (Kd.R_mono (Kd.R_mono (rf4 aZ 5 (rf4 bL 0 (Kd.R_types (Kd.R_types b2.out bF.out (by decide)) aC.out (by decide)) (fun _ hk => hk.1.2) (.int .i64 a6) (.int .i64 a7) (.int .i64 a8) (.int .i64 a9)) (fun _ hk => hk.2) (.int .i64 a6) (.int .i64 a7) (.int .i64 a8) (.int .i64 a9)) (fun _ h_ => h_.1)) (fun _ h_ => h_.1)))); (case aB => exact (kB HB.out)); (case aF => exact (fun k_ hk => ⟨(.inr (Nat.le_trans (show Kept w _ (fun k_ => aQ k_ ∨ aG k_) from (kK HK.out)).1 hk)), Kd.fresh' (Kd.R_lt (mR (Kd.R_mono (Kd.R_mono (rf4 aZ 5 (rf4 bL 0 (Kd.R_types (Kd.R_types bD.out bF.out (by decide)) aC.out (by decide)) (fun _ hk => hk.1.2) (.int .i64 a6) (.int .i64 a7) (.int .i64 a8) (.int .i64 a9)) (fun _ hk => hk.2) (.int .i64 a6) (.int .i64 a7) (.int .i64 a8) (.int .i64 a9)) (fun _ h_ => h_.1)) (fun _ h_ => h_.1)))) k_ hk, Kd.fresh' (Kd.R_lt (mR (Kd.R_mono (Kd.R_mono (rf4 aZ 5 (rf4 bL 0 (Kd.R_types (Kd.R_types b2.out bF.out (by decide)) aC.out (by decide)) (fun _ hk => hk.1.2) (.int .i64 a6) (.int .i64 a7) (.int .i64 a8) (.int .i64 a9)) (fun _ hk => hk.2) (.int .i64 a6) (.int .i64 a7) (.int .i64 a8) (.int .i64 a9)) (fun _ h_ => h_.1)) (fun _ h_ => h_.1)))) k_ hk⟩)); (case aO => exact (mR (Kd.R_mono (rf4 aZ 5 (rf4 bL 0 (Kd.R_types (Kd.R_types aE.out bF.out (by decide)) aC.out (by decide)) (fun _ hk => hk.1.2) (.int .i64 a6) (.int .i64 a7) (.int .i64 a8) (.int .i64 a9)) (fun _ hk => hk.2) (.int .i64 a6) (.int .i64 a7) (.int .i64 a8) (.int .i64 a9)) (fun _ hk => ⟨hk.1.1.1.1, ⟨hk.1.1.1.2, hk.1.1.2⟩⟩)))); (case aS => exact (kZ HB.out)); (case aL => have := sU.out; omega); intro v648 w167 ho hb hg hat; rw [← s2.out] at ho; have n0_ := Aside0.mk (Kd.R_after (ok := (fun k_ => ((aQ k_ ∨ aG k_) ∨ w.heap.size ≤ k_) ∧ some k_ ≠ (.slice dD cH.length cQ : Value).ownBlock)) (mR (Kd.R_mono (rf4 aZ 5 (rf4 bL 0 (Kd.R_types (Kd.R_types bD.out bF.out (by decide)) aC.out (by decide)) (fun _ hk => hk.1.2) (.int .i64 a6) (.int .i64 a7) (.int .i64 a8) (.int .i64 a9)) (fun _ hk => hk.2) (.int .i64 a6) (.int .i64 a7) (.int .i64 a8) (.int .i64 a9)) (fun _ hk => ⟨⟨hk.1.1.1.1, hk.1.1.2⟩, hk.1.1.1.2⟩))) hg hat); have n1_ := Aside0.mk (Kd.V_afterv (ok := (fun k_ => ((aQ k_ ∨ aG k_ ∨ b5 k_) ∨ w.heap.size ≤ k_) ∧ some k_ ≠ (u5 : Value).ownBlock ∧ some k_ ≠ (.slice bA aI.length bB : Value).ownBlock ∧ some k_ ≠ (.slice dD cH.length cQ : Value).ownBlock ∧ k_ ≠ aZ ∧ k_ ≠ bO ∧ k_ ≠ bC ∧ k_ ≠ bL)) (mV (Kd.V_mono (vf4 aZ 5 (vf4 bL 0 (Kd.V_mono (Kd.V_mono aM.out (fun k_ hk => (⟨hk, hk.2⟩ : _ ∧ k_ ≠ bL))) (fun k_ hk => (⟨hk, hk.1.1.1.2.2.2.2.1⟩ : _ ∧ k_ ≠ aZ))) (fun _ hk => hk.1.2) (.int .i64 a6) (.int .i64 a7) (.int .i64 a8) (.int .i64 a9)) (fun _ hk => hk.2) (.int .i64 a6) (.int .i64 a7) (.int .i64 a8) (.int .i64 a9)) (fun _ hk => ⟨⟨hk.1.1.1.1.1, ⟨hk.1.1.1.1.2.1, ⟨hk.1.1.1.1.2.2.1, ⟨hk.1.1.1.2, ⟨hk.1.1.1.1.2.2.2.2.1, ⟨hk.1.1.1.1.2.2.2.2.2.1, ⟨hk.1.1.1.1.2.2.2.2.2.2, hk.1.1.2⟩⟩⟩⟩⟩⟩⟩, hk.1.1.1.1.2.2.2.1⟩))) hg hat); have n2_ := Aside0.mk (Kd.R_over' (mR (Kd.R_mono (Kd.R_mono (rf4 aZ 5 (rf4 bL 0 (Kd.R_types (Kd.R_types aP.out bF.out (by decide)) aC.out (by decide)) (fun _ hk => hk.1.2) (.int .i64 a6) (.int .i64 a7) (.int .i64 a8) (.int .i64 a9)) (fun _ hk => hk.2) (.int .i64 a6) (.int .i64 a7) (.int .i64 a8) (.int .i64 a9)) (fun _ h_ => h_.1)) (fun _ h_ => h_.1))) (Kd.R_typed (mR (Kd.R_mono (Kd.R_mono (rf4 aZ 5 (rf4 bL 0 (Kd.R_types (Kd.R_types aE.out bF.out (by decide)) aC.out (by decide)) (fun _ hk => hk.1.2) (.int .i64 a6) (.int .i64 a7) (.int .i64 a8) (.int .i64 a9)) (fun _ hk => hk.2) (.int .i64 a6) (.int .i64 a7) (.int .i64 a8) (.int .i64 a9)) (fun _ h_ => h_.1)) (fun _ h_ => h_.1)))) (by decide) hg); have n3_ := Aside0.mk (blk_grown (g := aZ) (o := .cells #[.int .i64 a0, .int .i64 a1, .slice (some b8) aD.length bG, .int .i64 a2, .int .i64 aY, .int .i64 a6, .int .i64 a7, .int .i64 a8, .int .i64 a9, .slice bA aI.length bB, .slice bJ aA.length bK, .bool aH] 67 (0, 0)) (by exact (mK (pt12_5_4 (fr (fr (fr (fr aC.out bS.out) bS.out) bS.out) bS.out)))) hg (Kd.R_ne aE.out aC.out (by decide))); have n4_ := Aside0.mk (blk_grown (g := bO) (o := .cells #[.int .u8 a4, .int .u8 aU] 71 (0, 0)) (by exact (mK (fr (fr (fr (fr (fr (fr (fr (fr aN.out bU.out) bU.out) bU.out) bU.out) a5.out) a5.out) a5.out) a5.out))) hg (Kd.R_ne aE.out aN.out (by decide))); have n5_ := Aside0.mk (blk_grown (g := bC) (o := .cells #[.int .i64 0, .int .i64 0, .slice none 0 0, .int .i64 0, .int .i64 0, .int .i64 0, .int .i64 0, .int .i64 0, .int .i64 0, .slice none 0 0, .slice none 0 0, .bool false] 67 (0, 0)) (by exact (mK (fr (fr (fr (fr (fr (fr (fr (fr aT.out bV.out) bV.out) bV.out) bV.out) a3.out) a3.out) a3.out) a3.out))) hg (Kd.R_ne aE.out aT.out (by decide))); have n6_ := Aside0.mk (Kd.R_after (ok := (fun k_ => ((aQ k_ ∨ aG k_) ∨ w.heap.size ≤ k_) ∧ some k_ ≠ (u5 : Value).ownBlock)) (mR (Kd.R_mono (rf4 aZ 5 (rf4 bL 0 (Kd.R_types (Kd.R_types b2.out bF.out (by decide)) aC.out (by decide)) (fun _ hk => hk.1.2) (.int .i64 a6) (.int .i64 a7) (.int .i64 a8) (.int .i64 a9)) (fun _ hk => hk.2) (.int .i64 a6) (.int .i64 a7) (.int .i64 a8) (.int .i64 a9)) (fun _ hk => ⟨⟨hk.1.1.1.1.1, hk.1.1.1.2⟩, hk.1.1.2⟩))) hg hat); have n7_ := Aside0.mk (blk_grown (g := bL) (o := .cells #[.int .i64 a6, .int .i64 a7, .int .i64 a8, .int .i64 a9] 26 (0, 0)) (by exact (mK (fr (fr (fr (fr (pt4_0_4 bF.out) bT.out) bT.out) bT.out) bT.out))) hg (Kd.R_ne aE.out bF.out (by decide))); have n8_ := Aside0.mk (hb); have n9_ := Aside0.mk (Kept.of_grown (S := (fun k_ => aQ k_ ∨ aG k_)) hg (kK HK.out) (fun k_ e_ => (aE.out.1 k_ e_).1.1)); have n10_ := Aside0.mk (ho); clear bD; clear aM; clear aP; clear aC; clear aN; clear aT; clear b2; clear bF; clear HB; clear HK; clear aE; have bD := n0_; have aM := n1_; have aP := n2_; have aC := n3_; have aN := n4_; have aT := n5_; have b2 := n6_; have bF := n7_; have HB := n8_; have HK := n9_; have kF := n10_; clear n0_ n1_ n2_ n3_ n4_ n5_ n6_ n7_ n8_ n9_ n10_; clear ho hb hg hat; obtain ⟨cB, cC, s4⟩ := Kd.R_slice kF.out; subst s4; obtain ⟨xZ, x0, x1, x2, x3, x4, x5, x6, x7, x8, tW, tX⟩ := cz12 aC.out; obtain ⟨x9, yA, yB, yC, yD, yE, yF, yG, yH, yI, tY, tZ⟩ := fz12 aC.out; have hnb171 := b1.out; have hnc171 := b0.out; obtain ⟨yJ, yK, yL, yM, yN, yO, yP, yQ, yR, yS, t0, t1⟩ := cz12 aT.out; obtain ⟨yT, yU, yV, yW, yX, yY, yZ, y0, y1, y2, t2, t3⟩ := fz12 aT.out))
              refine bodyPost_ret (results_cell_row rfl _ _ bC 67 #[.int .i64 a0, .int .i64 a1, .slice (some b8) aD.length bG, .int .i64 a2, .int .i64 aY, .int .i64 a6, .int .i64 a7, .int .i64 a8, .int .i64 a9, .slice bA aI.length bB, .slice cB cI.length cC, .bool aH] (0, 0) _ rfl (by exact (mK (pt12_0_12 (fr aT.out a3.out)))) Try.underlying67 rfl (by kernel_rfl)) rfl ?_
              exact ⟨_, _, _, by first | rfl | (simp [errW_none, errW_some] <;> rfl) | (simp [*, errW_none, errW_some] <;> rfl), by refine mV ?_; exact Kd.V_mono (vf12 bC 0 (Kd.V_far (p := ⟨aZ, 10, none⟩) (Kd.V_mono (Kd.V_mono aM.out (fun k_ hk => (⟨hk, hk.1.2.2.2.2.1⟩ : _ ∧ k_ ≠ aZ))) (fun k_ hk => (⟨hk, hk.1.1.2.2.2.2.2.2.1⟩ : _ ∧ k_ ≠ bC))) (fun _ hk => hk.1.2) (.slice cB cI.length cC)) (fun _ hk => hk.2) (.int .i64 a0) (.int .i64 a1) (.slice (some b8) aD.length bG) (.int .i64 a2) (.int .i64 aY) (.int .i64 a6) (.int .i64 a7) (.int .i64 a8) (.int .i64 a9) (.slice bA aI.length bB) (.slice cB cI.length cC) (.bool aH)) (fun _ hk => ⟨hk.1.1.1.1, ⟨hk.1.1.1.2.2.1, hk.1.1.2⟩⟩), by refine mR ?_; exact Kd.R_mono (rf12 bC 0 (Kd.R_far (p := ⟨aZ, 10, none⟩) (Kd.R_types (Kd.R_types aP.out aC.out (by decide)) aT.out (by decide)) (fun _ hk => hk.1.2) (.slice cB cI.length cC)) (fun _ hk => hk.2) (.int .i64 a0) (.int .i64 a1) (.slice (some b8) aD.length bG) (.int .i64 a2) (.int .i64 aY) (.int .i64 a6) (.int .i64 a7) (.int .i64 a8) (.int .i64 a9) (.slice bA aI.length bB) (.slice cB cI.length cC) (.bool aH)) (fun _ hk => hk.1.1), by refine mR ?_; exact Kd.R_mono (rf12 bC 0 (Kd.R_far (p := ⟨aZ, 10, none⟩) (Kd.R_types (Kd.R_types kF.out aC.out (by decide)) aT.out (by decide)) (fun _ hk => hk.1.2) (.slice cB cI.length cC)) (fun _ hk => hk.2) (.int .i64 a0) (.int .i64 a1) (.slice (some b8) aD.length bG) (.int .i64 a2) (.int .i64 aY) (.int .i64 a6) (.int .i64 a7) (.int .i64 a8) (.int .i64 a9) (.slice bA aI.length bB) (.slice cB cI.length cC) (.bool aH)) (fun _ hk => hk.1.1.1), (kB HB.out), (kK HK.out)⟩
             ·rw [if_neg c156] at H
              exact absurd H (by simp)
            ·rw [if_neg c155] at H
             exact absurd H (by simp)
           ·replace c153 := Bool.eq_false_iff.mpr c153
            subst c153
            have H1 : (standbylaw32_step.l1 kj135 bW (wrap64 (aX - 1)) a0 a1 aD a2 aY aV aW aJ aK aI aA aH a4 aU) = some (r1, r2, r3, r4, r5, r6, r7, r8, r9, r10, r11, r12) := by rw [if_neg (show ¬ (false = true) by decide)] at H; exact H
            clear H
            have H := H1
            clear H1
            have H' := Aside0.mk H
            clear H
            go_wp2
            go_roundg kj135
            case measure => have := HK1.out; have := HJ135.out; omega
            case rel => exact ⟨(bW), (wrap64 (aX - 1)), (aV), (aW), (aJ), (aK), (aH), (by first | rfl | (simp; done) | (simp [*]; done)), H', ⟨by have := HK1.out; have := HJ135.out; omega⟩, ⟨by refine mR ?_; exact bD.out⟩, ⟨by refine mV ?_; exact aM.out⟩, ⟨by refine mR ?_; exact aP.out⟩, ⟨by refine mR ?_; exact aE.out⟩, ⟨by refine mK ?_; exact aC.out⟩, ⟨by refine mK ?_; exact aN.out⟩, ⟨by refine mK ?_; exact aT.out⟩, ⟨kK HK.out⟩, ⟨kB HB.out⟩⟩
        ·rw [if_neg c135] at H
         exact absurd H (by simp)
       ·rw [if_neg c134] at H
        exact absurd H (by simp)
      ·rw [if_neg c133] at H
       have dS : decide (0 ≤ aX) = false := decide_eq_false c133
       clear c133
       by_cases c173 : aA.length + bW.length < 1466015503701
       ·rw [if_pos c173] at H
        have sV := Aside0.mk c173
        clear c173
        obtain ⟨cJ, cN⟩ : ∃ y_ : List (S53), y_ = (aA ++ bW) := ⟨_, rfl⟩
        replace H : (some (a0, a1, aD, a2, aY, aV, aW, aJ, aK, aI, cJ, aH)) = some (r1, r2, r3, r4, r5, r6, r7, r8, r9, r10, r11, r12) := by first | (rw [cN]; with_reducible exact H) | (have H2_ := (Option.bind_some _ _).symm.trans H; rw [cN]; with_reducible exact H2_) | (have H2_ := (Option.bind_some _ _).symm.trans H; with_reducible exact H2_) | with_reducible exact H | (rw [cN]; exact H) | exact H
        have s5 := Aside0.mk cN
        clear cN
        simp only [Option.some.injEq, Prod.mk.injEq] at H
        obtain ⟨rfl, rfl, rfl, rfl, rfl, rfl, rfl, rfl, rfl, rfl, rfl, rfl⟩ := H
        have hnb174 := bH.out
        have hnc174 := a5.out
        have hnb175 := bI.out
        have hnc175 := a3.out
        obtain ⟨y3, y4, y5, y6, y7, y8, y9, zA, zB, zC, t4, t5⟩ := cz12 aC.out
        obtain ⟨zD, zE, zF, zG, zH, zI, zJ, zK, zL, zM, t6, t7⟩ := fz12 aC.out
        obtain ⟨kG, kH, s6⟩ := Kd.R_slice bD.out
        subst s6
        go_wp2_with (first | ((with_reducible refine gate_builtin (b := .append) (xs := #[.tmp 247, .tmp 248]) rfl ?_); at_builtin; refine Kd.R_append_rows k53 (w0 := w0) w0.heap.size rfl (.tmp 247) (.tmp 248) 43 53 (.agg #[(.int .i64 0), (.int .i64 0), (.int .i64 0), (.int .i64 0), (.int .i64 0), (.int .i64 0), (.slice none 0 0), (.slice none 0 0)]) 96 rfl Try.underlying43 info53 rfl (by decide) (by omega) (.slice bJ aA.length bK) aA bW _ _ _ (fun k_ => ((aQ k_ ∨ aG k_) ∨ w.heap.size ≤ k_) ∧ some k_ ≠ (.slice kG bW.length kH : Value).ownBlock) (fun _ => False) rfl rfl ?aO ?aR (fun _ _ h => h) (fun _ h => h.elim) ?aF ?aB ?aS ?aL ?_; (case aR => repeat (first | exact (Kd.R_reads' bD.out).2.2 | (with_reducible refine Kd.C_alloc ?_ _) | (with_reducible refine Kd.C_drewN ?_ _) | (with_reducible refine Kd.C_drew ?_))); (case aB => exact (kB HB.out)); (case aF => exact (fun k_ hk => ⟨(.inr (Nat.le_trans (kS HK.out) hk)), Kd.fresh' (Kd.R_lt (mR bD.out)) k_ hk⟩)); (case aO => exact (mR aE.out)); (case aS => exact (kZ HB.out)); (case aL => have := sV.out; omega); intro v635 w177 ho hb hg hat; rw [← s5.out] at ho; have n0_ := Aside0.mk (Kd.R_after (ok := (fun k_ => ((aQ k_ ∨ aG k_) ∨ w.heap.size ≤ k_))) (mR bD.out) hg hat); have n1_ := Aside0.mk (Kd.V_afterv (ok := (fun k_ => ((aQ k_ ∨ aG k_ ∨ b5 k_) ∨ w.heap.size ≤ k_) ∧ some k_ ≠ (.slice kG bW.length kH : Value).ownBlock ∧ some k_ ≠ (.slice bA aI.length bB : Value).ownBlock ∧ k_ ≠ aZ ∧ k_ ≠ bO ∧ k_ ≠ bC)) (mV (Kd.V_mono aM.out (fun _ hk => ⟨⟨hk.1, ⟨hk.2.1, ⟨hk.2.2.1, ⟨hk.2.2.2.2.1, ⟨hk.2.2.2.2.2.1, hk.2.2.2.2.2.2⟩⟩⟩⟩⟩, hk.2.2.2.1⟩))) hg hat); have n2_ := Aside0.mk (Kd.R_over' (mR aP.out) (Kd.R_typed (mR aE.out)) (by decide) hg); have n3_ := Aside0.mk (blk_grown (mK aC.out) hg (Kd.R_ne aE.out aC.out (by decide))); have n4_ := Aside0.mk (blk_grown (mK aN.out) hg (Kd.R_ne aE.out aN.out (by decide))); have n5_ := Aside0.mk (blk_grown (mK aT.out) hg (Kd.R_ne aE.out aT.out (by decide))); have n6_ := Aside0.mk (hb); have n7_ := Aside0.mk (Kept.of_grown (S := (fun k_ => aQ k_ ∨ aG k_)) hg (kK HK.out) (fun k_ e_ => (aE.out.1 k_ e_).1)); have n8_ := Aside0.mk (ho); clear bD; clear aM; clear aP; clear aC; clear aN; clear aT; clear HB; clear HK; clear aE; have bD := n0_; have aM := n1_; have aP := n2_; have aC := n3_; have aN := n4_; have aT := n5_; have HB := n6_; have HK := n7_; have kI := n8_; clear n0_ n1_ n2_ n3_ n4_ n5_ n6_ n7_ n8_; clear ho hb hg hat; obtain ⟨cD, cE, s7⟩ := Kd.R_slice kI.out; subst s7; obtain ⟨zN, zO, zP, zQ, zR, zS, zT, zU, zV, zW, t8, t9⟩ := cz12 aC.out; obtain ⟨zX, zY, zZ, z0, z1, z2, z3, z4, z5, z6, uA, uB⟩ := fz12 aC.out; have hnb181 := b1.out; have hnc181 := b0.out; obtain ⟨z7, z8, z9, AA, AB, AC, AD, AE, AF, AG, uC, uD⟩ := cz12 aT.out; obtain ⟨AH, AI, AJ, AK, AL, AM, AN, AO, AP, AQ, uE, uF⟩ := fz12 aT.out))
        refine bodyPost_ret (results_cell_row rfl _ _ bC 67 #[.int .i64 a0, .int .i64 a1, .slice b3 aD.length bG, .int .i64 a2, .int .i64 aY, .int .i64 aV, .int .i64 aW, .int .i64 aJ, .int .i64 aK, .slice bA aI.length bB, .slice cD cJ.length cE, .bool aH] (0, 0) _ rfl (by exact (mK (pt12_0_12 (fr aT.out a3.out)))) Try.underlying67 rfl (by kernel_rfl)) rfl ?_
        exact ⟨_, _, _, by first | rfl | (simp [errW_none, errW_some] <;> rfl) | (simp [*, errW_none, errW_some] <;> rfl), by refine mV ?_; exact Kd.V_mono (vf12 bC 0 (Kd.V_far (p := ⟨aZ, 10, none⟩) (Kd.V_mono (Kd.V_mono aM.out (fun k_ hk => (⟨hk, hk.1.2.2.2.1⟩ : _ ∧ k_ ≠ aZ))) (fun k_ hk => (⟨hk, hk.1.1.2.2.2.2.2⟩ : _ ∧ k_ ≠ bC))) (fun _ hk => hk.1.2) (.slice cD cJ.length cE)) (fun _ hk => hk.2) (.int .i64 a0) (.int .i64 a1) (.slice b3 aD.length bG) (.int .i64 a2) (.int .i64 aY) (.int .i64 aV) (.int .i64 aW) (.int .i64 aJ) (.int .i64 aK) (.slice bA aI.length bB) (.slice cD cJ.length cE) (.bool aH)) (fun _ hk => ⟨hk.1.1.1.1, ⟨hk.1.1.1.2.2.1, hk.1.1.2⟩⟩), by refine mR ?_; exact Kd.R_mono (rf12 bC 0 (Kd.R_far (p := ⟨aZ, 10, none⟩) (Kd.R_types (Kd.R_types aP.out aC.out (by decide)) aT.out (by decide)) (fun _ hk => hk.1.2) (.slice cD cJ.length cE)) (fun _ hk => hk.2) (.int .i64 a0) (.int .i64 a1) (.slice b3 aD.length bG) (.int .i64 a2) (.int .i64 aY) (.int .i64 aV) (.int .i64 aW) (.int .i64 aJ) (.int .i64 aK) (.slice bA aI.length bB) (.slice cD cJ.length cE) (.bool aH)) (fun _ hk => hk.1.1), by refine mR ?_; exact Kd.R_mono (rf12 bC 0 (Kd.R_far (p := ⟨aZ, 10, none⟩) (Kd.R_types (Kd.R_types kI.out aC.out (by decide)) aT.out (by decide)) (fun _ hk => hk.1.2) (.slice cD cJ.length cE)) (fun _ hk => hk.2) (.int .i64 a0) (.int .i64 a1) (.slice b3 aD.length bG) (.int .i64 a2) (.int .i64 aY) (.int .i64 aV) (.int .i64 aW) (.int .i64 aJ) (.int .i64 aK) (.slice bA aI.length bB) (.slice cD cJ.length cE) (.bool aH)) (fun _ hk => hk.1.1.1), (kB HB.out), (kK HK.out)⟩
       ·rw [if_neg c173] at H
        exact absurd H (by simp)
   ·exact absurd hx_.out c122
end Go.Proofs.Ytedoloapddmanaa.PB
