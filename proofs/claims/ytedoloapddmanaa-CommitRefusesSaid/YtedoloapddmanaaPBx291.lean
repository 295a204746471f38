-- Written by a program of this session (wip/tools) over the kit's print.
import Derived.Test.YtedoloapddmanaaPBx0
import Derived.Test.YtedoloapddmanaaSh
import Derived.Test.YtedoloapddmanaaSh2
import Derived.Test.YtedoloapddmanaaPBx2
import Derived.Test.YtedoloapddmanaaPBx7
import Derived.Test.YtedoloapddmanaaPBx8
import Derived.Test.YtedoloapddmanaaPBx10
import Derived.Test.YtedoloapddmanaaPBx11
import Derived.Test.YtedoloapddmanaaPBx25
import Derived.Test.YtedoloapddmanaaPBx299
namespace Go.Proofs.Ytedoloapddmanaa.PB
open Go.RowKit Go.Proofs.YtedoloapddmanaaW.PrintWords Go.Proofs.YtedoloapddmanaaW.PrintLast Go.Proofs.YtedoloapddmanaaW.PrintMore
attribute [local go_sem] max2_int min2_int max_two min_two max_three min_three max_four min_four   -- for this text's walks alone
set_option linter.unusedVariables false
set_option linter.unusedSimpArgs false

/-! ### standbylaw32_step: function 38 -/
set_option maxHeartbeats 8000000 in
set_option maxRecDepth 100000 in
theorem standbylaw32_step.calls1 (k : Nat) (aZ : Int) (a0 : Int) (b2 : Nat → Prop) (b1 : Option Addr) (bG : Nat) (aD : List Int) (a1 : Int) (aW : Int) (bI : Int) (bK : Int) (bL : Int) (bJ : Int) (aM : Nat → Prop) (cB : Value) (aI : List Int) (aG : Nat → Prop) (cC : Value) (aA : List (S53)) (bB : Bool) (bA : Int) (aX : Int) (r1 : Int) (r2 : Int) (r3 : List Int) (r4 : Int) (r5 : Int) (r6 : Int) (r7 : Int) (r8 : Int) (r9 : Int) (r10 : List Int) (r11 : List (S53)) (r12 : Bool) (w0 w : World) (hB : Below w0.heap.size w0 w) (nU : Kd.V (Kd.int .i64) 3 w w0.heap.size (fun k_ => b2 k_ ∧ some k_ ≠ (cB : Value).ownBlock ∧ some k_ ≠ (cC : Value).ownBlock) (.slice b1 aD.length bG) aD) (nV : Kd.R (Kd.int .i64) 3 w w0.heap.size aM cB aI) (nR : Kd.R k53 53 w w0.heap.size aG cC aA) (h : standbylaw32_step.f k aZ a0 aD a1 aW bI bK bL bJ aI aA bB bA aX = some (r1, r2, r3, r4, r5, r6, r7, r8, r9, r10, r11, r12)) (hx_ : Aside0 (Int.tmod bA 7 = 1)) :
  Calls Try.prog 38 #[.agg #[.int .i64 aZ, .int .i64 a0, .slice b1 aD.length bG, .int .i64 a1, .int .i64 aW, .int .i64 bI, .int .i64 bK, .int .i64 bL, .int .i64 bJ, cB, cC, .bool bB], .agg #[.int .u8 bA, .int .u8 aX]] w fun e w' => ∃ v2_ v9_ v10_ : Value, e = .returned (.agg #[.int .i64 r1, .int .i64 r2, v2_, .int .i64 r4, .int .i64 r5, .int .i64 r6, .int .i64 r7, .int .i64 r8, .int .i64 r9, v9_, v10_, .bool r12]) ∧ Kd.V (Kd.int .i64) 3 w' w0.heap.size (fun k_ => ((aM k_ ∨ aG k_ ∨ b2 k_) ∨ w.heap.size ≤ k_) ∧ some k_ ≠ (v9_ : Value).ownBlock ∧ some k_ ≠ (v10_ : Value).ownBlock) v2_ r3 ∧ Kd.R (Kd.int .i64) 3 w' w0.heap.size (fun k_ => ((aM k_ ∨ aG k_) ∨ w.heap.size ≤ k_)) v9_ r10 ∧ Kd.R k53 53 w' w0.heap.size (fun k_ => ((aM k_ ∨ aG k_) ∨ w.heap.size ≤ k_)) v10_ r11 ∧ Below w0.heap.size w0 w' ∧ Kept w w' (fun k_ => aM k_ ∨ aG k_) := by
 have hu67 := Try.underlying67
 have hu71 := Try.underlying71
 have hu24 := Try.underlying24
 have hu26 := Try.underlying26
 have hu53 := Try.underlying53
 have b3 := Aside0.mk (show Kd.V (Kd.int .i64) 3 w w0.heap.size (fun k_ => ((aM k_ ∨ aG k_ ∨ b2 k_) ∨ w.heap.size ≤ k_) ∧ some k_ ≠ (cB : Value).ownBlock ∧ some k_ ≠ (cC : Value).ownBlock) (.slice b1 aD.length bG) aD from Kd.V_mono nU (fun k_ hk => ⟨.inl (.inr (.inr hk.1)), hk.2⟩))
 have bX := Aside0.mk (show Kd.R (Kd.int .i64) 3 w w0.heap.size (fun k_ => ((aM k_ ∨ aG k_) ∨ w.heap.size ≤ k_)) cB aI from Kd.R_mono nV (fun k_ hk => (.inl (.inl hk))))
 have bQ := Aside0.mk (show Kd.R k53 53 w w0.heap.size (fun k_ => ((aM k_ ∨ aG k_) ∨ w.heap.size ≤ k_)) cC aA from Kd.R_mono nR (fun k_ hk => (.inl (.inr hk))))
 have HK := Aside0.mk (Kept.refl w (fun k_ => aM k_ ∨ aG k_))
 have HW0 := Aside0.mk hB.size
 have HB := Aside0.mk hB
 clear hB
 have H := h
 unfold standbylaw32_step.f at H
 clear h
 by_cases c3 : (Int.tmod bA 7) = 0
 ·exact absurd (c3.symm.trans hx_.out) (by decide)
 ·rw [if_neg c3] at H
  have c3b0 : ((Int.tmod bA 7) == 0) = false := beq_eq_false_iff_ne.mpr c3
  have c3b1 : ((Int.tmod bA 7) != 0) = true := bne_iff_ne.mpr c3
  by_cases c70 : (Int.tmod bA 7) = 1
  ·rw [if_pos c70] at H
   have eM : ((Int.tmod bA 7) == 1) = true := beq_iff_eq.mpr c70
   have eN : ((Int.tmod bA 7) != 1) = false := bne_eq_false_iff_eq.mpr c70
   clear c70
   have H' := Aside0.mk H
   clear H
   obtain ⟨bD, bE, oU⟩ := Kd.R_slice bX.out
   subst oU
   obtain ⟨bN, bO, oV⟩ := Kd.R_slice bQ.out
   subst oV
   go_enter Try.func38, Try.ntmps38
   go_wp2_with (first | ((with_reducible refine gate_dst (N := 2) rfl ?_); refine box_event ?hg (N := 2) ?hd (cs := #[.int .i64 aZ, .int .i64 a0, .slice b1 aD.length bG, .int .i64 a1, .int .i64 aW, .int .i64 bI, .int .i64 bK, .int .i64 bL, .int .i64 bJ, .slice bD aI.length bE, .slice bN aA.length bO, .bool bB]) (t := 67) ?hr ?_; (case hd => rfl); (case hg => rfl); (case hr => first | (go_simp; done) | (go_simp; rfl)); intro aY hg w73 hbox hb; replace bX := tR bX hb; replace bQ := tR bQ hb; replace b3 := Aside0.mk (Kd.V_below (Kd.V_elderB (mV b3.out) aY (Nat.le_of_eq hg.symm)) hb); have aC := Aside0.mk (hbox); have GW575 := gS HK hg; replace HK := tE HK hb; have GE575 := gZ HB hg; replace HB := tB HB hb; clear hb hbox hg) | ((with_reducible refine gate_dst (N := 3) rfl ?_); refine box_event ?hg (N := 3) ?hd (cs := #[.int .u8 bA, .int .u8 aX]) (t := 71) ?hr ?_; (case hd => rfl); (case hg => rfl); (case hr => first | (go_simp; done) | (go_simp; rfl)); intro bP hg w74 hbox hb; replace bX := tR bX hb; replace bQ := tR bQ hb; replace b3 := Aside0.mk (Kd.V_below (Kd.V_elderB (mV b3.out) bP (Nat.le_of_eq hg.symm)) hb); have aT := Aside0.mk (hbox); have GW576 := gS HK hg; replace HK := tE HK hb; have GE576 := gZ HB hg; replace HB := tB HB hb; have bM := nL aC hg; have a8 := nG aC hg; replace aC := tK aC hb; clear hb hbox hg) | ((with_reducible refine gate_dst (N := 4) rfl ?_); refine box_event ?hg (N := 4) ?hd (cs := #[.int .i64 0, .int .i64 0, .slice none 0 0, .int .i64 0, .int .i64 0, .int .i64 0, .int .i64 0, .int .i64 0, .int .i64 0, .slice none 0 0, .slice none 0 0, .bool false]) (t := 67) ?hr ?_; (case hd => rfl); (case hg => rfl); (case hr => first | (go_simp; done) | (go_simp; rfl)); intro a9 hg w75 hbox hb; replace bX := tR bX hb; replace bQ := tR bQ hb; replace b3 := Aside0.mk (Kd.V_below (Kd.V_elderB (mV b3.out) a9 (Nat.le_of_eq hg.symm)) hb); have aN := Aside0.mk (hbox); have GW577 := gS HK hg; replace HK := tE HK hb; have GE577 := gZ HB hg; replace HB := tB HB hb; have bR := nL aC hg; have a3 := nG aC hg; replace aC := tK aC hb; have cD := nL aT hg; have cE := nG aT hg; replace aT := tK aT hb; clear hb hbox hg; have hnb76 := a8.out; have hnc76 := bM.out; have hnb77 := cD.out; have hnc77 := cE.out; have cP : w75.cell? ⟨bP, 0, none⟩ = some (.int .u8 bA) := (blk_cell aT.out 0).trans rfl; have cQ : w75.cell? ⟨bP, 1, none⟩ = some (.int .u8 aX) := (blk_cell aT.out 1).trans rfl; have cR := blk_frozen aT.out 0; have cS := blk_frozen aT.out 1))
   go_loopg [5, 10] k (fun kq v5 v10 w' => ∃ (bW : List (S53)) (a2 : Int) (aP : Int) (aU : Int) (aJ : Int) (aV : Int) (aH : Bool), v10 = .int .i64 a2 ∧ Aside0 (standbylaw32_step.l0 kq bW a2 aZ a0 aD a1 aW aP aU aJ aV aI aA aH = some (r1, r2, r3, r4, r5, r6, r7, r8, r9, r10, r11, r12)) ∧ Aside0 (kq ≤ k) ∧ Aside0 (Kd.R k53 53 w' w0.heap.size (fun k_ => ((aM k_ ∨ aG k_) ∨ w.heap.size ≤ k_) ∧ some k_ ≠ ((.slice bN aA.length bO) : Value).ownBlock) v5 bW) ∧ Aside0 (Kd.V (Kd.int .i64) 3 w' w0.heap.size (fun k_ => ((aM k_ ∨ aG k_ ∨ b2 k_) ∨ w.heap.size ≤ k_) ∧ some k_ ≠ (v5 : Value).ownBlock ∧ some k_ ≠ ((.slice bD aI.length bE) : Value).ownBlock ∧ some k_ ≠ ((.slice bN aA.length bO) : Value).ownBlock ∧ k_ ≠ aY ∧ k_ ≠ bP ∧ k_ ≠ a9) (.slice b1 aD.length bG) aD) ∧ Aside0 (Kd.R (Kd.int .i64) 3 w' w0.heap.size (fun k_ => ((aM k_ ∨ aG k_) ∨ w.heap.size ≤ k_)) (.slice bD aI.length bE) aI) ∧ Aside0 (Kd.R k53 53 w' w0.heap.size (fun k_ => ((aM k_ ∨ aG k_) ∨ w.heap.size ≤ k_) ∧ some k_ ≠ (v5 : Value).ownBlock) (.slice bN aA.length bO) aA) ∧ Aside0 (w'.heap[aY]? = some (.cells #[.int .i64 aZ, .int .i64 a0, (.slice b1 aD.length bG), .int .i64 a1, .int .i64 aW, .int .i64 aP, .int .i64 aU, .int .i64 aJ, .int .i64 aV, (.slice bD aI.length bE), (.slice bN aA.length bO), .bool aH] 67 (0, 0))) ∧ Aside0 (w'.heap[bP]? = some (.cells #[.int .u8 bA, .int .u8 aX] 71 (0, 0))) ∧ Aside0 (w'.heap[a9]? = some (.cells #[.int .i64 0, .int .i64 0, (.slice none 0 0), .int .i64 0, .int .i64 0, .int .i64 0, .int .i64 0, .int .i64 0, .int .i64 0, (.slice none 0 0), (.slice none 0 0), .bool false] 67 (0, 0))) ∧ Aside0 (Kept w w' (fun k_ => aM k_ ∨ aG k_)) ∧ Aside0 (Below w0.heap.size w0 w'))
   case atStart => exact ⟨(([] : List (S53))), (0), (bI), (bK), (bL), (bJ), (bB), (by first | rfl | (simp; done) | (simp [*]; done)), H', ⟨Nat.le_refl _⟩, ⟨by first | exact Kd.R_nil _ _ _ _ _ | exact Kd.N_nil _ _ _ _ _ | exact Kd.V_nil _ _ _ _ _ | exact Kd.Q_nil _ _ _ _ _ | exact Kd.S_nil _ _ _ _ _⟩, ⟨by refine mV ?_; exact Kd.V_mono b3.out (fun _ hk => ⟨hk.1.1.1.1, ⟨(by simp [Value.ownBlock]), ⟨hk.1.1.1.2.1, ⟨hk.1.1.1.2.2, ⟨hk.1.1.2, ⟨hk.1.2, hk.2⟩⟩⟩⟩⟩⟩)⟩, ⟨by refine mR ?_; exact bX.out⟩, ⟨by refine mR ?_; exact Kd.R_mono bQ.out (fun _ hk => ⟨hk, (by simp [Value.ownBlock])⟩)⟩, ⟨by refine mK ?_; exact aC.out⟩, ⟨by refine mK ?_; exact aT.out⟩, ⟨by refine mK ?_; exact aN.out⟩, ⟨kK HK.out⟩, ⟨kB HB.out⟩⟩
   case round =>
    clear H'
    try clear c1
    try clear c2
    try clear p2
    try clear c3
    try clear c3b0
    try clear c3b1
    try clear c4
    try clear c4b0
    try clear c4b1
    try clear c5
    try clear p5
    try clear q5
    try clear hx5
    try clear c6
    try clear c6b0
    try clear p6
    try clear c7
    try clear c7b0
    try clear c9
    try clear c9b0
    try clear c9b1
    try clear c10
    try clear c11
    try clear c17
    try clear c18
    try clear c20
    try clear c22
    try clear c24
    try clear c25
    try clear c26
    try clear c38
    try clear c40
    try clear nW
    try clear nX
    try clear c41
    try clear c42
    try clear c48
    try clear c49
    try clear c51
    try clear c55
    try clear c56
    try clear c57
    try clear p57
    try clear q57
    try clear hx57
    try clear p64
    try clear c70
    try clear eM
    try clear eN
    try clear c76
    try clear c77
    try clear eT eU
    try clear eV eW cX cY eX eY eZ e0 e1 e2 e3 e4
    try clear e5 e6 e7 e8 e9
    try clear fA fB cZ c0 fC fD fE fF fG fH fI fJ
    try clear fK fL
    try clear fM fN dA dB fO fP fQ fR fS fT fU fV
    try clear fW fX dC dD fY fZ f8 f9 gA gB gC gD
    try clear gE gF dE dF gG gH gI gJ gK gL gM gN
    try clear gO gP
    try clear gQ gR dG dH gT gU gV gW gX gY g0 g1
    try clear g2 g3 g4 g5 g6
    try clear g7 g8 dI dJ g9 hA hC hD hE hF hG hH
    try clear hI hJ
    try clear hK hL dK dL hM hN hO hP hQ hR hS hT
    try clear hU hV dM dN hW hX hY hZ h0 h1 h2 h3
    try clear h4 h5 dO dP h6 h7 h8 h9 iA iB iC iD
    try clear cP cQ
    try clear iE iF
    try clear iG iH dQ dR iI iJ iK iL iM iN iO iP
    try clear iQ iR iS iT iU
    try clear iV iW dS dT iX iY iZ i0 i1 i2 i3 i4
    try clear i5 i6
    try clear i7 i8 dU dV i9 jA jB jC jD jE jF jG
    try clear jH jI dW dX jJ jK jL jM jN jO jP jQ
    try clear jR jS dY dZ jT jU jV jW jX jY jZ j0
    try clear j2 j3
    try clear j4 j5 d0 d1 j6 j7 j8 j9 kA kC kD kE
    try clear kF kG kH kI kJ
    try clear kL kM d2 d3 kN kO kP kQ kR kT kU kV
    try clear kW kX
    try clear kY k0 d4 d5 k2 k3 k4 k5 k6 k7 k8 k9
    try clear lA lB d6 d7 lC lD lE lF lG lH lI lJ
    try clear lK lL d8 d9 lM lN lO lP lQ lR lS lT
    try clear cR cS
    try clear lU
    try clear p578
    try clear q578
    obtain ⟨bW, a2, aP, aU, aJ, aV, aH, rfl, HA, HK1, bC, aK, aQ, aE, aC, aT, aN, HK, HB⟩ := hrel
    cases gk with
    | zero => exact absurd HA.out (by simp [standbylaw32_step.l0])
    | succ k1 =>
     have H := HA.out
     clear HA
     simp only [standbylaw32_step.l0] at H
     by_cases c79 : a2 < (aD.length : Int)
     ·rw [if_pos c79] at H
      have eO : decide (a2 < (aD.length : Int)) = true := decide_eq_true c79
      clear c79
      by_cases c80 : 0 ≤ a2
      ·rw [if_pos c80] at H
       have nY : decide (0 ≤ a2) = true := decide_eq_true c80
       clear c80
       have HC81 := Aside0.mk H
       clear H
       have hnb82 := bM.out
       have hnc82 := a8.out
       have hnb83 := bR.out
       have hnc83 := a3.out
       obtain ⟨lV, lW, lX, lY, lZ, l2, l3, l4, l5, l6, eA, eB⟩ := cz12 aC.out
       obtain ⟨l7, l8, l9, mA, mB, mC, mD, mE, mF, mG, eC, eD⟩ := fz12 aC.out
       have p618 : 0 ≤ (a2 : Int) := of_decide_eq_true (by first | (with_reducible assumption) | assumption)
       have q618 : a2 < (aD.length : Int) := of_decide_eq_true (by first | (with_reducible assumption) | assumption)
       obtain ⟨b5, e618, mH⟩ := Kd.at_int (Kd.V_reads' aK.out).2.2 a2 p618 q618
       cases e618
       replace p618 := eq_true p618
       replace q618 := eq_true q618
       go_upto_region 19 with (fail)
       go_cut [126] (fun oW wc => ∃ (kq : Nat) (cK : Bool), oW = .bool cK ∧ Aside0 (standbylaw32_step.j1 kq bW a2 (rd aD a2) cK aZ a0 aD a1 aW aP aU aJ aV aI aA aH = some (r1, r2, r3, r4, r5, r6, r7, r8, r9, r10, r11, r12)) ∧ Aside0 (kq ≤ k1) ∧ Aside0 (Kd.R k53 53 wc w0.heap.size (fun k_ => ((aM k_ ∨ aG k_) ∨ w.heap.size ≤ k_) ∧ some k_ ≠ ((.slice bN aA.length bO) : Value).ownBlock) u5 bW) ∧ Aside0 (Kd.V (Kd.int .i64) 3 wc w0.heap.size (fun k_ => ((aM k_ ∨ aG k_ ∨ b2 k_) ∨ w.heap.size ≤ k_) ∧ some k_ ≠ (u5 : Value).ownBlock ∧ some k_ ≠ ((.slice bD aI.length bE) : Value).ownBlock ∧ some k_ ≠ ((.slice bN aA.length bO) : Value).ownBlock ∧ k_ ≠ aY ∧ k_ ≠ bP ∧ k_ ≠ a9) (.slice (some b5) aD.length bG) aD) ∧ Aside0 (Kd.R (Kd.int .i64) 3 wc w0.heap.size (fun k_ => ((aM k_ ∨ aG k_) ∨ w.heap.size ≤ k_)) (.slice bD aI.length bE) aI) ∧ Aside0 (Kd.R k53 53 wc w0.heap.size (fun k_ => ((aM k_ ∨ aG k_) ∨ w.heap.size ≤ k_) ∧ some k_ ≠ (u5 : Value).ownBlock) (.slice bN aA.length bO) aA) ∧ Aside0 (wc.heap[aY]? = some (.cells #[.int .i64 aZ, .int .i64 a0, (.slice (some b5) aD.length bG), .int .i64 a1, .int .i64 aW, .int .i64 aP, .int .i64 aU, .int .i64 aJ, .int .i64 aV, (.slice bD aI.length bE), (.slice bN aA.length bO), .bool aH] 67 (0, 0))) ∧ Aside0 (wc.heap[bP]? = some (.cells #[.int .u8 bA, .int .u8 aX] 71 (0, 0))) ∧ Aside0 (wc.heap[a9]? = some (.cells #[.int .i64 0, .int .i64 0, (.slice none 0 0), .int .i64 0, .int .i64 0, .int .i64 0, .int .i64 0, .int .i64 0, .int .i64 0, (.slice none 0 0), (.slice none 0 0), .bool false] 67 (0, 0))) ∧ Aside0 (Kept w wc (fun k_ => aM k_ ∨ aG k_)) ∧ Aside0 (Below w0.heap.size w0 wc))
       case first =>
        have H := HC81.out
        clear HC81
        by_cases c85 : (rd aD a2) > aJ
        ·rw [if_pos c85] at H
         have cL : decide (aJ < (rd aD a2)) = true := decide_eq_true c85
         clear c85
         (first | rw [cL] | (simp only [i64_w, i32_w]; rw [cL]) | skip)
         have H' := Aside0.mk H
         clear H
         have hnb86 := bM.out
         have hnc86 := a8.out
         have hnb87 := bR.out
         have hnc87 := a3.out
         obtain ⟨mI, mJ, mL, mM, mN, mO, mP, mQ, mS, mT, eE, eF⟩ := cz12 aC.out
         obtain ⟨mU, mW, mX, mY, mZ, m0, m1, m2, m3, m4, eG, eH⟩ := fz12 aC.out
         go_wp2
         go_meet
         case rel => exact ⟨_, ((aZ == aP)), (by first | rfl | (simp; done) | (simp [*]; done)), H', ⟨by have := HK1.out; first | omega | exact Nat.le_refl _⟩, ⟨by refine mR ?_; exact bC.out⟩, ⟨by refine mV ?_; exact aK.out⟩, ⟨by refine mR ?_; exact aQ.out⟩, ⟨by refine mR ?_; exact aE.out⟩, ⟨by refine mK ?_; exact aC.out⟩, ⟨by refine mK ?_; exact aT.out⟩, ⟨by refine mK ?_; exact aN.out⟩, ⟨kK HK.out⟩, ⟨kB HB.out⟩⟩
        ·rw [if_neg c85] at H
         have cL : decide (aJ < (rd aD a2)) = false := decide_eq_false c85
         clear c85
         (first | rw [cL] | (simp only [i64_w, i32_w]; rw [cL]) | skip)
         have H' := Aside0.mk H
         clear H
         have hnb89 := bM.out
         have hnc89 := a8.out
         have hnb90 := bR.out
         have hnc90 := a3.out
         obtain ⟨m5, m6, m7, m8, m9, nA, nB, nC, nD, nE, eI, eJ⟩ := cz12 aC.out
         obtain ⟨nF, nH, nI, nJ, nK, nM, nN, nO, nP, nQ, eK, eL⟩ := fz12 aC.out
         go_wp2
         go_meet
         case rel => exact ⟨_, (false), (by first | rfl | (simp; done) | (simp [*]; done)), H', ⟨by have := HK1.out; first | omega | exact Nat.le_refl _⟩, ⟨by refine mR ?_; exact bC.out⟩, ⟨by refine mV ?_; exact aK.out⟩, ⟨by refine mR ?_; exact aQ.out⟩, ⟨by refine mR ?_; exact aE.out⟩, ⟨by refine mK ?_; exact aC.out⟩, ⟨by refine mK ?_; exact aT.out⟩, ⟨by refine mK ?_; exact aN.out⟩, ⟨kK HK.out⟩, ⟨kB HB.out⟩⟩
       case rest =>
        clear HC81
        try clear c1
        try clear c2
        try clear p2
        try clear c3
        try clear c3b0
        try clear c3b1
        try clear c4
        try clear c4b0
        try clear c4b1
        try clear c5
        try clear p5
        try clear q5
        try clear hx5
        try clear c6
        try clear c6b0
        try clear p6
        try clear q6
        try clear hx6
        try clear c7
        try clear c7b0
        try clear c8
        try clear c9
        try clear c9b0
        try clear c9b1
        try clear c10
        try clear c11
        try clear c17
        try clear c18
        try clear c20
        try clear c22
        try clear c24
        try clear c25
        try clear c26
        try clear c38
        try clear c40
        try clear nW
        try clear nX
        try clear c41
        try clear c42
        try clear c48
        try clear c49
        try clear c51
        try clear c55
        try clear c56
        try clear c57
        try clear p57
        try clear q57
        try clear hx57
        try clear p61
        try clear q61
        try clear hx61
        try clear p64
        try clear c70
        try clear eM
        try clear eN
        try clear c76
        try clear c77
        try clear c79
        try clear eO
        try clear c80
        try clear nY
        try clear c82
        try clear c83
        try clear c85
        try clear cL
        try clear c86
        try clear c87
        try clear c89
        try clear c90
        try clear eT eU
        try clear eV eW cX cY eX eY eZ e0 e1 e2 e3 e4
        try clear e5 e6 e7 e8 e9
        try clear fA fB cZ c0 fC fD fE fF fG fH fI fJ
        try clear fK fL
        try clear fM fN dA dB fO fP fQ fR fS fT fU fV
        try clear fW fX dC dD fY fZ f8 f9 gA gB gC gD
        try clear gE gF dE dF gG gH gI gJ gK gL gM gN
        try clear gO gP
        try clear gQ gR dG dH gT gU gV gW gX gY g0 g1
        try clear g2 g3 g4 g5 g6
        try clear g7 g8 dI dJ g9 hA hC hD hE hF hG hH
        try clear hI hJ
        try clear hK hL dK dL hM hN hO hP hQ hR hS hT
        try clear hU hV dM dN hW hX hY hZ h0 h1 h2 h3
        try clear h4 h5 dO dP h6 h7 h8 h9 iA iB iC iD
        try clear cP cQ
        try clear lV lW eA eB lX lY lZ l2 l3 l4 l5 l6
        try clear mI mJ eE eF mL mM mN mO mP mQ mS mT
        try clear m5 m6 eI eJ m7 m8 m9 nA nB nC nD nE
        try clear iE iF
        try clear iG iH dQ dR iI iJ iK iL iM iN iO iP
        try clear iQ iR iS iT iU
        try clear iV iW dS dT iX iY iZ i0 i1 i2 i3 i4
        try clear i5 i6
        try clear i7 i8 dU dV i9 jA jB jC jD jE jF jG
        try clear jH jI dW dX jJ jK jL jM jN jO jP jQ
        try clear jR jS dY dZ jT jU jV jW jX jY jZ j0
        try clear j2 j3
        try clear j4 j5 d0 d1 j6 j7 j8 j9 kA kC kD kE
        try clear kF kG kH kI kJ
        try clear kL kM d2 d3 kN kO kP kQ kR kT kU kV
        try clear kW kX
        try clear kY k0 d4 d5 k2 k3 k4 k5 k6 k7 k8 k9
        try clear lA lB d6 d7 lC lD lE lF lG lH lI lJ
        try clear lK lL d8 d9 lM lN lO lP lQ lR lS lT
        try clear cR cS
        try clear l7 l8 eC eD l9 mA mB mC mD mE mF mG
        try clear mU mW eG eH mX mY mZ m0 m1 m2 m3 m4
        try clear nF nH eK eL nI nJ nK nM nN nO nP nQ
        try clear lU
        try clear mH
        try clear p2
        try clear p5
        try clear p57
        try clear p578
        try clear p6
        try clear p618
        try clear p64
        try clear q5
        try clear q57
        try clear q578
        try clear q618
        obtain ⟨kq, cK, rfl, HA, HJ80, bC, aK, aQ, aE, aC, aT, aN, HK, HB⟩ := hcut
        cases kq with
        | zero => exact absurd HA.out (by simp [standbylaw32_step.j1])
        | succ kj80 =>
         have H := HA.out
         clear HA
         simp only [standbylaw32_step.j1] at H
         by_cases c92 : cK = true
         ·subst c92
          have H1 : ((commit_Store.f kj80 aP aU aJ aV (rd aD a2)).bind fun b6 => (if b6.2.2.2.2.2 = 0 then (if aA.length + b6.2.2.2.2.1.length < 1466015503701 then (some (aZ, a0, aD, a1, aW, b6.1, b6.2.1, b6.2.2.1, b6.2.2.2.1, aI, (aA ++ b6.2.2.2.2.1), aH)) else (none)) else (none))) = some (r1, r2, r3, r4, r5, r6, r7, r8, r9, r10, r11, r12) := by rw [if_pos rfl] at H; exact H
          clear H
          have H := H1
          clear H1
          replace H := Option.bind_eq_some_iff.mp H
          obtain ⟨⟨a4, a5, a6, a7, cF, cT⟩, A930, H⟩ := H
          (try dsimp only at H)
          have A93 := Aside0.mk A930
          clear A930
          by_cases c94 : cT = 0
          ·rw [if_pos c94] at H
           have c94b0 : (cT == 0) = true := beq_iff_eq.mpr c94
           have c94b1 : (cT != 0) = false := bne_eq_false_iff_eq.mpr c94
           clear c94
           by_cases c95 : aA.length + cF.length < 1466015503701
           ·rw [if_pos c95] at H
            have nZ := Aside0.mk c95
            clear c95
            obtain ⟨cG, cM⟩ : ∃ y_ : List (S53), y_ = (aA ++ cF) := ⟨_, rfl⟩
            replace H : (some (aZ, a0, aD, a1, aW, a4, a5, a6, a7, aI, cG, aH)) = some (r1, r2, r3, r4, r5, r6, r7, r8, r9, r10, r11, r12) := by first | (rw [cM]; with_reducible exact H) | (have H2_ := (Option.bind_some _ _).symm.trans H; rw [cM]; with_reducible exact H2_) | (have H2_ := (Option.bind_some _ _).symm.trans H; with_reducible exact H2_) | with_reducible exact H | (rw [cM]; exact H) | exact H
            have n0 := Aside0.mk cM
            clear cM
            simp only [Option.some.injEq, Prod.mk.injEq] at H
            obtain ⟨rfl, rfl, rfl, rfl, rfl, rfl, rfl, rfl, rfl, rfl, rfl, rfl⟩ := H
            have hnb96 := bM.out
            have hnc96 := a8.out
            have hnb97 := bR.out
            have hnc97 := a3.out
            obtain ⟨sZ, s0, s1, s2, s3, s4, s5, s6, s7, s8, oX, oY⟩ := cz12 aC.out
            obtain ⟨s9, tA, tC, tD, tF, tG, tH, tI, tJ, tL, oZ, o0⟩ := fz12 aC.out
            go_wp2_with (first | ((with_reducible refine gate_callee (f := 31) rfl ?_); refine goesL_ (some 131) rfl rfl Try.func31 (by kernel_rfl) rfl #[.agg #[.int .i64 aP, .int .i64 aU, .int .i64 aJ, .int .i64 aV], .int .i64 (rd aD a2)] rfl (by (try simp only [List.map_toArray, List.map_cons, List.map_nil]); first | done | rfl | (simp only [List.length_drop, List.length_take]; rfl)) ?_; (with_reducible refine (commit_Store.calls kj80 aP aU aJ aV (rd aD a2) a4 a5 a6 a7 cF cT _ A93.out).mono ?_); rintro e w99 ⟨v624, rfl, ho0, hb⟩; refine ⟨_, rfl, ?_⟩; replace aK := Aside0.mk (Kd.V_elder' (mV aK.out) (Kd.R_base ho0) hb); replace aQ := tR aQ hb; have b0 := Aside0.mk (Kd.R_lower (Kd.R_new' (Kd.R_new' (Kd.R_newM (M := fun k_ => ((aM k_ ∨ aG k_) ∨ w.heap.size ≤ k_)) ho0 (kS HK.out) (fun k_ h_ => .inr h_)) (Kd.R_lt (mR bC.out))) (Kd.R_lt (mR aE.out))) (kZ HB.out)); replace bC := Aside0.mk (Kd.R_elder' (mR bC.out) (Kd.R_base ho0) hb); replace aE := Aside0.mk (Kd.R_elder' (mR aE.out) (Kd.R_base ho0) hb); replace aC := tK aC hb; replace aT := tK aT hb; replace aN := tK aN hb; replace HK := tE HK hb; replace HB := tB HB hb; (try clear hb); (try clear hb2); (try clear hk); (try clear hi); (try clear ho0)) | ((with_reducible refine gate_dst (N := 12) rfl ?_); refine box_event ?hg (N := 12) ?hd (cs := #[.int .i64 0, .int .i64 0, .int .i64 0, .int .i64 0]) (t := 26) ?hr ?_; (case hd => rfl); (case hg => rfl); (case hr => first | (go_simp; done) | (go_simp; rfl)); intro bH hg w100 hbox hb; replace bC := tR bC hb; replace aK := Aside0.mk (Kd.V_below (Kd.V_elderB (mV aK.out) bH (Nat.le_of_eq hg.symm)) hb); replace aQ := tR aQ hb; replace aE := tR aE hb; replace b0 := tR b0 hb; have bF := Aside0.mk (hbox); have GW627 := gS HK hg; replace HK := tE HK hb; have GE627 := gZ HB hg; replace HB := tB HB hb; have bS := nL aC hg; have bT := nG aC hg; replace aC := tK aC hb; have bU := nL aT hg; have cV := nG aT hg; replace aT := tK aT hb; have bV := nL aN hg; have cW := nG aN hg; replace aN := tK aN hb; clear hb hbox hg; have hnb101 := bT.out; have hnc101 := bS.out; have hnb102 := cV.out; have hnc102 := bU.out; have hnb103 := cW.out; have hnc103 := bV.out; obtain ⟨o1, o2, o3, o4⟩ := cz4 bF.out; obtain ⟨o5, o6, o7, o8⟩ := fz4 bF.out; obtain ⟨o9, pA, pB, pC, pD, pE, pF, pG, pH, pI, n6, n7⟩ := cz12 aC.out; obtain ⟨pJ, pK, pL, pM, pN, pO, pP, pQ, pR, pS, n8, n9⟩ := fz12 aC.out; obtain ⟨cU, cO, n1⟩ := Kd.R_slice b0.out; subst n1) | ((with_reducible refine gate_builtin (b := .append) (xs := #[.tmp 247, .tmp 248]) rfl ?_); at_builtin; refine Kd.R_append_rows k53 (w0 := w0) w0.heap.size rfl (.tmp 247) (.tmp 248) 43 53 (.agg #[(.int .i64 0), (.int .i64 0), (.int .i64 0), (.int .i64 0), (.int .i64 0), (.int .i64 0), (.slice none 0 0), (.slice none 0 0)]) 96 rfl Try.underlying43 info53 rfl (by decide) (by omega) (.slice bN aA.length bO) aA cF _ _ _ (fun k_ => ((aM k_ ∨ aG k_) ∨ w.heap.size ≤ k_) ∧ some k_ ≠ (u5 : Value).ownBlock ∧ some k_ ≠ (.slice cU cF.length cO : Value).ownBlock) (fun _ => False) rfl rfl ?aO ?aR (fun _ _ h => h) (fun _ h => h.elim) ?aF ?aB ?aS ?aL ?_; (case aR => refine (Kd.R_reads' (e := 53) (base := w0.heap.size) (ok := fun k_ => (((((aM k_ ∨ aG k_) ∨ w.heap.size ≤ k_) ∧ True) ∧ some k_ ≠ (u5 : Value).ownBlock) ∧ some k_ ≠ (.slice bN aA.length bO : Value).ownBlock)) (n := cF.length) (c := cO) ?_).2.2; exact (mR (Kd.R_mono (Kd.R_mono (rf4 aY 5 (rf4 bH 0 (Kd.R_types (Kd.R_types b0.out bF.out (by decide)) aC.out (by decide)) (fun _ hk => hk.1.2) (.int .i64 a4) (.int .i64 a5) (.int .i64 a6) (.int .i64 a7)) (fun _ hk => hk.2) (.int .i64 a4) (.int .i64 a5) (.int .i64 a6) (.int .i64 a7)) (fun _ h_ => h_.1)) (fun _ h_ => h_.1)))); (case aB => exact (kB HB.out)); (case aF => exact (fun k_ hk => ⟨(.inr (Nat.le_trans (show Kept w _ (fun k_ => aM k_ ∨ aG k_) from (kK HK.out)).1 hk)), Kd.fresh' (Kd.R_lt (mR (Kd.R_mono (Kd.R_mono (rf4 aY 5 (rf4 bH 0 (Kd.R_types (Kd.R_types bC.out bF.out (by decide)) aC.out (by decide)) (fun _ hk => hk.1.2) (.int .i64 a4) (.int .i64 a5) (.int .i64 a6) (.int .i64 a7)) (fun _ hk => hk.2) (.int .i64 a4) (.int .i64 a5) (.int .i64 a6) (.int .i64 a7)) (fun _ h_ => h_.1)) (fun _ h_ => h_.1)))) k_ hk, Kd.fresh' (Kd.R_lt (mR (Kd.R_mono (Kd.R_mono (rf4 aY 5 (rf4 bH 0 (Kd.R_types (Kd.R_types b0.out bF.out (by decide)) aC.out (by decide)) (fun _ hk => hk.1.2) (.int .i64 a4) (.int .i64 a5) (.int .i64 a6) (.int .i64 a7)) (fun _ hk => hk.2) (.int .i64 a4) (.int .i64 a5) (.int .i64 a6) (.int .i64 a7)) (fun _ h_ => h_.1)) (fun _ h_ => h_.1)))) k_ hk⟩)); (case aO => exact (mR (Kd.R_mono (rf4 aY 5 (rf4 bH 0 (Kd.R_types (Kd.R_types aE.out bF.out (by decide)) aC.out (by decide)) (fun _ hk => hk.1.2) (.int .i64 a4) (.int .i64 a5) (.int .i64 a6) (.int .i64 a7)) (fun _ hk => hk.2) (.int .i64 a4) (.int .i64 a5) (.int .i64 a6) (.int .i64 a7)) (fun _ hk => ⟨hk.1.1.1.1, ⟨hk.1.1.1.2, hk.1.1.2⟩⟩)))); (case aS => exact (kZ HB.out)); (case aL => have := nZ.out; omega); intro v629 w106 ho hb hg hat; rw [← n0.out] at ho; have n0_ := Aside0.mk (Kd.R_after (ok := (fun k_ => ((aM k_ ∨ aG k_) ∨ w.heap.size ≤ k_) ∧ some k_ ≠ (.slice cU cF.length cO : Value).ownBlock)) (mR (Kd.R_mono (rf4 aY 5 (rf4 bH 0 (Kd.R_types (Kd.R_types bC.out bF.out (by decide)) aC.out (by decide)) (fun _ hk => hk.1.2) (.int .i64 a4) (.int .i64 a5) (.int .i64 a6) (.int .i64 a7)) (fun _ hk => hk.2) (.int .i64 a4) (.int .i64 a5) (.int .i64 a6) (.int .i64 a7)) (fun _ hk => ⟨⟨hk.1.1.1.1, hk.1.1.2⟩, hk.1.1.1.2⟩))) hg hat); have n1_ := Aside0.mk (Kd.V_afterv (ok := (fun k_ => ((aM k_ ∨ aG k_ ∨ b2 k_) ∨ w.heap.size ≤ k_) ∧ some k_ ≠ (u5 : Value).ownBlock ∧ some k_ ≠ (.slice bD aI.length bE : Value).ownBlock ∧ some k_ ≠ (.slice cU cF.length cO : Value).ownBlock ∧ k_ ≠ aY ∧ k_ ≠ bP ∧ k_ ≠ a9 ∧ k_ ≠ bH)) (mV (Kd.V_mono (vf4 aY 5 (vf4 bH 0 (Kd.V_mono (Kd.V_mono aK.out (fun k_ hk => (⟨hk, hk.2⟩ : _ ∧ k_ ≠ bH))) (fun k_ hk => (⟨hk, hk.1.1.1.2.2.2.2.1⟩ : _ ∧ k_ ≠ aY))) (fun _ hk => hk.1.2) (.int .i64 a4) (.int .i64 a5) (.int .i64 a6) (.int .i64 a7)) (fun _ hk => hk.2) (.int .i64 a4) (.int .i64 a5) (.int .i64 a6) (.int .i64 a7)) (fun _ hk => ⟨⟨hk.1.1.1.1.1, ⟨hk.1.1.1.1.2.1, ⟨hk.1.1.1.1.2.2.1, ⟨hk.1.1.1.2, ⟨hk.1.1.1.1.2.2.2.2.1, ⟨hk.1.1.1.1.2.2.2.2.2.1, ⟨hk.1.1.1.1.2.2.2.2.2.2, hk.1.1.2⟩⟩⟩⟩⟩⟩⟩, hk.1.1.1.1.2.2.2.1⟩))) hg hat); have n2_ := Aside0.mk (Kd.R_over' (mR (Kd.R_mono (Kd.R_mono (rf4 aY 5 (rf4 bH 0 (Kd.R_types (Kd.R_types aQ.out bF.out (by decide)) aC.out (by decide)) (fun _ hk => hk.1.2) (.int .i64 a4) (.int .i64 a5) (.int .i64 a6) (.int .i64 a7)) (fun _ hk => hk.2) (.int .i64 a4) (.int .i64 a5) (.int .i64 a6) (.int .i64 a7)) (fun _ h_ => h_.1)) (fun _ h_ => h_.1))) (Kd.R_typed (mR (Kd.R_mono (Kd.R_mono (rf4 aY 5 (rf4 bH 0 (Kd.R_types (Kd.R_types aE.out bF.out (by decide)) aC.out (by decide)) (fun _ hk => hk.1.2) (.int .i64 a4) (.int .i64 a5) (.int .i64 a6) (.int .i64 a7)) (fun _ hk => hk.2) (.int .i64 a4) (.int .i64 a5) (.int .i64 a6) (.int .i64 a7)) (fun _ h_ => h_.1)) (fun _ h_ => h_.1)))) (by decide) hg); have n3_ := Aside0.mk (blk_grown (g := aY) (o := .cells #[.int .i64 aZ, .int .i64 a0, .slice (some b5) aD.length bG, .int .i64 a1, .int .i64 aW, .int .i64 a4, .int .i64 a5, .int .i64 a6, .int .i64 a7, .slice bD aI.length bE, .slice bN aA.length bO, .bool aH] 67 (0, 0)) (by exact (mK (pt12_5_4 (fr (fr (fr (fr aC.out bS.out) bS.out) bS.out) bS.out)))) hg (Kd.R_ne aE.out aC.out (by decide))); have n4_ := Aside0.mk (blk_grown (g := bP) (o := .cells #[.int .u8 bA, .int .u8 aX] 71 (0, 0)) (by exact (mK (fr (fr (fr (fr (fr (fr (fr (fr aT.out bU.out) bU.out) bU.out) bU.out) a8.out) a8.out) a8.out) a8.out))) hg (Kd.R_ne aE.out aT.out (by decide))); have n5_ := Aside0.mk (blk_grown (g := a9) (o := .cells #[.int .i64 0, .int .i64 0, .slice none 0 0, .int .i64 0, .int .i64 0, .int .i64 0, .int .i64 0, .int .i64 0, .int .i64 0, .slice none 0 0, .slice none 0 0, .bool false] 67 (0, 0)) (by exact (mK (fr (fr (fr (fr (fr (fr (fr (fr aN.out bV.out) bV.out) bV.out) bV.out) a3.out) a3.out) a3.out) a3.out))) hg (Kd.R_ne aE.out aN.out (by decide))); have n6_ := Aside0.mk (Kd.R_after (ok := (fun k_ => ((aM k_ ∨ aG k_) ∨ w.heap.size ≤ k_) ∧ some k_ ≠ (u5 : Value).ownBlock)) (mR (Kd.R_mono (rf4 aY 5 (rf4 bH 0 (Kd.R_types (Kd.R_types b0.out bF.out (by decide)) aC.out (by decide)) (fun _ hk => hk.1.2) (.int .i64 a4) (.int .i64 a5) (.int .i64 a6) (.int .i64 a7)) (fun _ hk => hk.2) (.int .i64 a4) (.int .i64 a5) (.int .i64 a6) (.int .i64 a7)) (fun _ hk => ⟨⟨hk.1.1.1.1.1, hk.1.1.1.2⟩, hk.1.1.2⟩))) hg hat); have n7_ := Aside0.mk (blk_grown (g := bH) (o := .cells #[.int .i64 a4, .int .i64 a5, .int .i64 a6, .int .i64 a7] 26 (0, 0)) (by exact (mK (fr (fr (fr (fr (pt4_0_4 bF.out) bT.out) bT.out) bT.out) bT.out))) hg (Kd.R_ne aE.out bF.out (by decide))); have n8_ := Aside0.mk (hb); have n9_ := Aside0.mk (Kept.of_grown (S := (fun k_ => aM k_ ∨ aG k_)) hg (kK HK.out) (fun k_ e_ => (aE.out.1 k_ e_).1.1)); have n10_ := Aside0.mk (ho); clear bC; clear aK; clear aQ; clear aC; clear aT; clear aN; clear b0; clear bF; clear HB; clear HK; clear aE; have bC := n0_; have aK := n1_; have aQ := n2_; have aC := n3_; have aT := n4_; have aN := n5_; have b0 := n6_; have bF := n7_; have HB := n8_; have HK := n9_; have eP := n10_; clear n0_ n1_ n2_ n3_ n4_ n5_ n6_ n7_ n8_ n9_ n10_; clear ho hb hg hat; obtain ⟨b7, b8, n2⟩ := Kd.R_slice eP.out; subst n2; obtain ⟨pT, pU, pV, pW, pX, pY, pZ, p0, p1, p3, oA, oB⟩ := cz12 aC.out; obtain ⟨p4, p7, p8, p9, qA, qB, qC, qD, qE, qF, oC, oD⟩ := fz12 aC.out; have hnb110 := cE.out; have hnc110 := cD.out; obtain ⟨qG, qH, qI, qJ, qK, qL, qM, qN, qO, qP, oE, oF⟩ := cz12 aN.out; obtain ⟨qQ, qR, qS, qT, qU, qV, qW, qX, qY, qZ, oG, oH⟩ := fz12 aN.out))
            refine bodyPost_ret (results_cell_row rfl _ _ a9 67 #[.int .i64 aZ, .int .i64 a0, .slice (some b5) aD.length bG, .int .i64 a1, .int .i64 aW, .int .i64 a4, .int .i64 a5, .int .i64 a6, .int .i64 a7, .slice bD aI.length bE, .slice b7 cG.length b8, .bool aH] (0, 0) _ rfl (by exact (mK (pt12_0_12 (fr aN.out a3.out)))) Try.underlying67 rfl (by kernel_rfl)) rfl ?_
            exact ⟨_, _, _, by first | rfl | (simp [errW_none, errW_some] <;> rfl) | (simp [*, errW_none, errW_some] <;> rfl), by refine mV ?_; exact Kd.V_mono (vf12 a9 0 (Kd.V_far (p := ⟨aY, 10, none⟩) (Kd.V_mono (Kd.V_mono aK.out (fun k_ hk => (⟨hk, hk.1.2.2.2.2.1⟩ : _ ∧ k_ ≠ aY))) (fun k_ hk => (⟨hk, hk.1.1.2.2.2.2.2.2.1⟩ : _ ∧ k_ ≠ a9))) (fun _ hk => hk.1.2) (.slice b7 cG.length b8)) (fun _ hk => hk.2) (.int .i64 aZ) (.int .i64 a0) (.slice (some b5) aD.length bG) (.int .i64 a1) (.int .i64 aW) (.int .i64 a4) (.int .i64 a5) (.int .i64 a6) (.int .i64 a7) (.slice bD aI.length bE) (.slice b7 cG.length b8) (.bool aH)) (fun _ hk => ⟨hk.1.1.1.1, ⟨hk.1.1.1.2.2.1, hk.1.1.2⟩⟩), by refine mR ?_; exact Kd.R_mono (rf12 a9 0 (Kd.R_far (p := ⟨aY, 10, none⟩) (Kd.R_types (Kd.R_types aQ.out aC.out (by decide)) aN.out (by decide)) (fun _ hk => hk.1.2) (.slice b7 cG.length b8)) (fun _ hk => hk.2) (.int .i64 aZ) (.int .i64 a0) (.slice (some b5) aD.length bG) (.int .i64 a1) (.int .i64 aW) (.int .i64 a4) (.int .i64 a5) (.int .i64 a6) (.int .i64 a7) (.slice bD aI.length bE) (.slice b7 cG.length b8) (.bool aH)) (fun _ hk => hk.1.1), by refine mR ?_; exact Kd.R_mono (rf12 a9 0 (Kd.R_far (p := ⟨aY, 10, none⟩) (Kd.R_types (Kd.R_types eP.out aC.out (by decide)) aN.out (by decide)) (fun _ hk => hk.1.2) (.slice b7 cG.length b8)) (fun _ hk => hk.2) (.int .i64 aZ) (.int .i64 a0) (.slice (some b5) aD.length bG) (.int .i64 a1) (.int .i64 aW) (.int .i64 a4) (.int .i64 a5) (.int .i64 a6) (.int .i64 a7) (.slice bD aI.length bE) (.slice b7 cG.length b8) (.bool aH)) (fun _ hk => hk.1.1.1), (kB HB.out), (kK HK.out)⟩
           ·rw [if_neg c95] at H
            exact absurd H (by simp)
          ·rw [if_neg c94] at H
           exact absurd H (by simp)
         ·replace c92 := Bool.eq_false_iff.mpr c92
          subst c92
          have H1 : (standbylaw32_step.l0 kj80 bW (wrap64 (a2 + 1)) aZ a0 aD a1 aW aP aU aJ aV aI aA aH) = some (r1, r2, r3, r4, r5, r6, r7, r8, r9, r10, r11, r12) := by rw [if_neg (show ¬ (false = true) by decide)] at H; exact H
          clear H
          have H := H1
          clear H1
          have H' := Aside0.mk H
          clear H
          go_wp2
          go_roundg kj80
          case measure => have := HK1.out; have := HJ80.out; omega
          case rel => exact ⟨(bW), (wrap64 (a2 + 1)), (aP), (aU), (aJ), (aV), (aH), (by first | rfl | (simp; done) | (simp [*]; done)), H', ⟨by have := HK1.out; have := HJ80.out; omega⟩, ⟨by refine mR ?_; exact bC.out⟩, ⟨by refine mV ?_; exact aK.out⟩, ⟨by refine mR ?_; exact aQ.out⟩, ⟨by refine mR ?_; exact aE.out⟩, ⟨by refine mK ?_; exact aC.out⟩, ⟨by refine mK ?_; exact aT.out⟩, ⟨by refine mK ?_; exact aN.out⟩, ⟨kK HK.out⟩, ⟨kB HB.out⟩⟩
      ·rw [if_neg c80] at H
       exact absurd H (by simp)
     ·rw [if_neg c79] at H
      have eO : decide (a2 < (aD.length : Int)) = false := decide_eq_false c79
      clear c79
      by_cases c112 : aA.length + bW.length < 1466015503701
      ·rw [if_pos c112] at H
       have nT := Aside0.mk c112
       clear c112
       obtain ⟨cH, cN⟩ : ∃ y_ : List (S53), y_ = (aA ++ bW) := ⟨_, rfl⟩
       replace H : (some (aZ, a0, aD, a1, aW, aP, aU, aJ, aV, aI, cH, aH)) = some (r1, r2, r3, r4, r5, r6, r7, r8, r9, r10, r11, r12) := by first | (rw [cN]; with_reducible exact H) | (have H2_ := (Option.bind_some _ _).symm.trans H; rw [cN]; with_reducible exact H2_) | (have H2_ := (Option.bind_some _ _).symm.trans H; with_reducible exact H2_) | with_reducible exact H | (rw [cN]; exact H) | exact H
       have n3 := Aside0.mk cN
       clear cN
       simp only [Option.some.injEq, Prod.mk.injEq] at H
       obtain ⟨rfl, rfl, rfl, rfl, rfl, rfl, rfl, rfl, rfl, rfl, rfl, rfl⟩ := H
       have hnb113 := bM.out
       have hnc113 := a8.out
       have hnb114 := bR.out
       have hnc114 := a3.out
       obtain ⟨q0, q1, q2, q3, q4, q7, q8, q9, rA, rB, oI, oJ⟩ := cz12 aC.out
       obtain ⟨rC, rD, rE, rF, rG, rH, rI, rJ, rK, rL, oK, oL⟩ := fz12 aC.out
       obtain ⟨eQ, eR, n4⟩ := Kd.R_slice bC.out
       subst n4
       go_wp2_with (first | ((with_reducible refine gate_builtin (b := .append) (xs := #[.tmp 247, .tmp 248]) rfl ?_); at_builtin; refine Kd.R_append_rows k53 (w0 := w0) w0.heap.size rfl (.tmp 247) (.tmp 248) 43 53 (.agg #[(.int .i64 0), (.int .i64 0), (.int .i64 0), (.int .i64 0), (.int .i64 0), (.int .i64 0), (.slice none 0 0), (.slice none 0 0)]) 96 rfl Try.underlying43 info53 rfl (by decide) (by omega) (.slice bN aA.length bO) aA bW _ _ _ (fun k_ => ((aM k_ ∨ aG k_) ∨ w.heap.size ≤ k_) ∧ some k_ ≠ (.slice eQ bW.length eR : Value).ownBlock) (fun _ => False) rfl rfl ?aO ?aR (fun _ _ h => h) (fun _ h => h.elim) ?aF ?aB ?aS ?aL ?_; (case aR => repeat (first | exact (Kd.R_reads' bC.out).2.2 | (with_reducible refine Kd.C_alloc ?_ _) | (with_reducible refine Kd.C_drewN ?_ _) | (with_reducible refine Kd.C_drew ?_))); (case aB => exact (kB HB.out)); (case aF => exact (fun k_ hk => ⟨(.inr (Nat.le_trans (kS HK.out) hk)), Kd.fresh' (Kd.R_lt (mR bC.out)) k_ hk⟩)); (case aO => exact (mR aE.out)); (case aS => exact (kZ HB.out)); (case aL => have := nT.out; omega); intro v616 w116 ho hb hg hat; rw [← n3.out] at ho; have n0_ := Aside0.mk (Kd.R_after (ok := (fun k_ => ((aM k_ ∨ aG k_) ∨ w.heap.size ≤ k_))) (mR bC.out) hg hat); have n1_ := Aside0.mk (Kd.V_afterv (ok := (fun k_ => ((aM k_ ∨ aG k_ ∨ b2 k_) ∨ w.heap.size ≤ k_) ∧ some k_ ≠ (.slice eQ bW.length eR : Value).ownBlock ∧ some k_ ≠ (.slice bD aI.length bE : Value).ownBlock ∧ k_ ≠ aY ∧ k_ ≠ bP ∧ k_ ≠ a9)) (mV (Kd.V_mono aK.out (fun _ hk => ⟨⟨hk.1, ⟨hk.2.1, ⟨hk.2.2.1, ⟨hk.2.2.2.2.1, ⟨hk.2.2.2.2.2.1, hk.2.2.2.2.2.2⟩⟩⟩⟩⟩, hk.2.2.2.1⟩))) hg hat); have n2_ := Aside0.mk (Kd.R_over' (mR aQ.out) (Kd.R_typed (mR aE.out)) (by decide) hg); have n3_ := Aside0.mk (blk_grown (mK aC.out) hg (Kd.R_ne aE.out aC.out (by decide))); have n4_ := Aside0.mk (blk_grown (mK aT.out) hg (Kd.R_ne aE.out aT.out (by decide))); have n5_ := Aside0.mk (blk_grown (mK aN.out) hg (Kd.R_ne aE.out aN.out (by decide))); have n6_ := Aside0.mk (hb); have n7_ := Aside0.mk (Kept.of_grown (S := (fun k_ => aM k_ ∨ aG k_)) hg (kK HK.out) (fun k_ e_ => (aE.out.1 k_ e_).1)); have n8_ := Aside0.mk (ho); clear bC; clear aK; clear aQ; clear aC; clear aT; clear aN; clear HB; clear HK; clear aE; have bC := n0_; have aK := n1_; have aQ := n2_; have aC := n3_; have aT := n4_; have aN := n5_; have HB := n6_; have HK := n7_; have eS := n8_; clear n0_ n1_ n2_ n3_ n4_ n5_ n6_ n7_ n8_; clear ho hb hg hat; obtain ⟨b9, cA, n5⟩ := Kd.R_slice eS.out; subst n5; obtain ⟨rM, rN, rO, rP, rQ, rR, rS, rT, rU, rV, oM, oN⟩ := cz12 aC.out; obtain ⟨rW, rX, rY, rZ, r0, sA, sB, sC, sD, sE, oO, oP⟩ := fz12 aC.out; have hnb120 := cE.out; have hnc120 := cD.out; obtain ⟨sF, sG, sH, sI, sJ, sK, sL, sM, sN, sO, oQ, oR⟩ := cz12 aN.out; obtain ⟨sP, sQ, sR, sS, sT, sU, sV, sW, sX, sY, oS, oT⟩ := fz12 aN.out))
       refine bodyPost_ret (results_cell_row rfl _ _ a9 67 #[.int .i64 aZ, .int .i64 a0, .slice b1 aD.length bG, .int .i64 a1, .int .i64 aW, .int .i64 aP, .int .i64 aU, .int .i64 aJ, .int .i64 aV, .slice bD aI.length bE, .slice b9 cH.length cA, .bool aH] (0, 0) _ rfl (by exact (mK (pt12_0_12 (fr aN.out a3.out)))) Try.underlying67 rfl (by kernel_rfl)) rfl ?_
       exact ⟨_, _, _, by first | rfl | (simp [errW_none, errW_some] <;> rfl) | (simp [*, errW_none, errW_some] <;> rfl), by refine mV ?_; exact Kd.V_mono (vf12 a9 0 (Kd.V_far (p := ⟨aY, 10, none⟩) (Kd.V_mono (Kd.V_mono aK.out (fun k_ hk => (⟨hk, hk.1.2.2.2.1⟩ : _ ∧ k_ ≠ aY))) (fun k_ hk => (⟨hk, hk.1.1.2.2.2.2.2⟩ : _ ∧ k_ ≠ a9))) (fun _ hk => hk.1.2) (.slice b9 cH.length cA)) (fun _ hk => hk.2) (.int .i64 aZ) (.int .i64 a0) (.slice b1 aD.length bG) (.int .i64 a1) (.int .i64 aW) (.int .i64 aP) (.int .i64 aU) (.int .i64 aJ) (.int .i64 aV) (.slice bD aI.length bE) (.slice b9 cH.length cA) (.bool aH)) (fun _ hk => ⟨hk.1.1.1.1, ⟨hk.1.1.1.2.2.1, hk.1.1.2⟩⟩), by refine mR ?_; exact Kd.R_mono (rf12 a9 0 (Kd.R_far (p := ⟨aY, 10, none⟩) (Kd.R_types (Kd.R_types aQ.out aC.out (by decide)) aN.out (by decide)) (fun _ hk => hk.1.2) (.slice b9 cH.length cA)) (fun _ hk => hk.2) (.int .i64 aZ) (.int .i64 a0) (.slice b1 aD.length bG) (.int .i64 a1) (.int .i64 aW) (.int .i64 aP) (.int .i64 aU) (.int .i64 aJ) (.int .i64 aV) (.slice bD aI.length bE) (.slice b9 cH.length cA) (.bool aH)) (fun _ hk => hk.1.1), by refine mR ?_; exact Kd.R_mono (rf12 a9 0 (Kd.R_far (p := ⟨aY, 10, none⟩) (Kd.R_types (Kd.R_types eS.out aC.out (by decide)) aN.out (by decide)) (fun _ hk => hk.1.2) (.slice b9 cH.length cA)) (fun _ hk => hk.2) (.int .i64 aZ) (.int .i64 a0) (.slice b1 aD.length bG) (.int .i64 a1) (.int .i64 aW) (.int .i64 aP) (.int .i64 aU) (.int .i64 aJ) (.int .i64 aV) (.slice bD aI.length bE) (.slice b9 cH.length cA) (.bool aH)) (fun _ hk => hk.1.1.1), (kB HB.out), (kK HK.out)⟩
      ·rw [if_neg c112] at H
       exact absurd H (by simp)
  ·exact absurd hx_.out c70
end Go.Proofs.Ytedoloapddmanaa.PB
