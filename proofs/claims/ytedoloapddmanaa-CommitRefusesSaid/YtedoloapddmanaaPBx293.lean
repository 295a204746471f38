-- Written by a program of this session (wip/tools) over the kit's print.
import Derived.Test.YtedoloapddmanaaPBx0
import Derived.Test.YtedoloapddmanaaSh
import Derived.Test.YtedoloapddmanaaSh2
import Derived.Test.YtedoloapddmanaaSh4
import Derived.Test.YtedoloapddmanaaPBx2
import Derived.Test.YtedoloapddmanaaPBx7
import Derived.Test.YtedoloapddmanaaPBx8
import Derived.Test.YtedoloapddmanaaPBx10
import Derived.Test.YtedoloapddmanaaPBx11
import Derived.Test.YtedoloapddmanaaPBx25
import Derived.Test.YtedoloapddmanaaPBx299
namespace Go.Proofs.Ytedoloapddmanaa.PB
open Go.RowKit Go.Proofs.YtedoloapddmanaaW.PrintWords Go.Proofs.YtedoloapddmanaaW.PrintLast Go.Proofs.YtedoloapddmanaaW.PrintMore
attribute [local go_sem] max2_int min2_int max_two min_two max_three min_three max_four min_four   -- for this text's walks alone
set_option linter.unusedVariables false
set_option linter.unusedSimpArgs false

/-! ### standbylaw32_step: function 38 -/
set_option maxHeartbeats 8000000 in
set_option maxRecDepth 100000 in
theorem standbylaw32_step.calls3 (k : Nat) (a3 : Int) (a4 : Int) (bR : Nat → Prop) (bL : Option Addr) (bM : Nat) (aI : List Int) (a5 : Int) (a2 : Int) (aW : Int) (aZ : Int) (a0 : Int) (aX : Int) (a6 : Nat → Prop) (bV : Value) (aM : List Int) (aU : Nat → Prop) (bW : Value) (aA : List (S53)) (aN : Bool) (aY : Int) (aJ : Int) (r1 : Int) (r2 : Int) (r3 : List Int) (r4 : Int) (r5 : Int) (r6 : Int) (r7 : Int) (r8 : Int) (r9 : Int) (r10 : List Int) (r11 : List (S53)) (r12 : Bool) (w0 w : World) (hB : Below w0.heap.size w0 w) (cQ : Kd.V (Kd.int .i64) 3 w w0.heap.size (fun k_ => bR k_ ∧ some k_ ≠ (bV : Value).ownBlock ∧ some k_ ≠ (bW : Value).ownBlock) (.slice bL aI.length bM) aI) (cR : Kd.R (Kd.int .i64) 3 w w0.heap.size a6 bV aM) (cL : Kd.R k53 53 w w0.heap.size aU bW aA) (h : standbylaw32_step.f k a3 a4 aI a5 a2 aW aZ a0 aX aM aA aN aY aJ = some (r1, r2, r3, r4, r5, r6, r7, r8, r9, r10, r11, r12)) (hx_ : Aside0 (Int.tmod aY 7 = 3)) :
  Calls Try.prog 38 #[.agg #[.int .i64 a3, .int .i64 a4, .slice bL aI.length bM, .int .i64 a5, .int .i64 a2, .int .i64 aW, .int .i64 aZ, .int .i64 a0, .int .i64 aX, bV, bW, .bool aN], .agg #[.int .u8 aY, .int .u8 aJ]] w fun e w' => ∃ v2_ v9_ v10_ : Value, e = .returned (.agg #[.int .i64 r1, .int .i64 r2, v2_, .int .i64 r4, .int .i64 r5, .int .i64 r6, .int .i64 r7, .int .i64 r8, .int .i64 r9, v9_, v10_, .bool r12]) ∧ Kd.V (Kd.int .i64) 3 w' w0.heap.size (fun k_ => ((a6 k_ ∨ aU k_ ∨ bR k_) ∨ w.heap.size ≤ k_) ∧ some k_ ≠ (v9_ : Value).ownBlock ∧ some k_ ≠ (v10_ : Value).ownBlock) v2_ r3 ∧ Kd.R (Kd.int .i64) 3 w' w0.heap.size (fun k_ => ((a6 k_ ∨ aU k_) ∨ w.heap.size ≤ k_)) v9_ r10 ∧ Kd.R k53 53 w' w0.heap.size (fun k_ => ((a6 k_ ∨ aU k_) ∨ w.heap.size ≤ k_)) v10_ r11 ∧ Below w0.heap.size w0 w' ∧ Kept w w' (fun k_ => a6 k_ ∨ aU k_) := by
 have hu67 := Try.underlying67
 have hu71 := Try.underlying71
 have hu24 := Try.underlying24
 have hu26 := Try.underlying26
 have hu53 := Try.underlying53
 have aT := Aside0.mk (show Kd.V (Kd.int .i64) 3 w w0.heap.size (fun k_ => ((a6 k_ ∨ aU k_ ∨ bR k_) ∨ w.heap.size ≤ k_) ∧ some k_ ≠ (bV : Value).ownBlock ∧ some k_ ≠ (bW : Value).ownBlock) (.slice bL aI.length bM) aI from Kd.V_mono cQ (fun k_ hk => ⟨.inl (.inr (.inr hk.1)), hk.2⟩))
 have aP := Aside0.mk (show Kd.R (Kd.int .i64) 3 w w0.heap.size (fun k_ => ((a6 k_ ∨ aU k_) ∨ w.heap.size ≤ k_)) bV aM from Kd.R_mono cR (fun k_ hk => (.inl (.inl hk))))
 have aG := Aside0.mk (show Kd.R k53 53 w w0.heap.size (fun k_ => ((a6 k_ ∨ aU k_) ∨ w.heap.size ≤ k_)) bW aA from Kd.R_mono cL (fun k_ hk => (.inl (.inr hk))))
 have HK := Aside0.mk (Kept.refl w (fun k_ => a6 k_ ∨ aU k_))
 have HW0 := Aside0.mk hB.size
 have HB := Aside0.mk hB
 clear hB
 have H := h
 unfold standbylaw32_step.f at H
 clear h
 by_cases c3 : (Int.tmod aY 7) = 0
 ·exact absurd (c3.symm.trans hx_.out) (by decide)
 ·rw [if_neg c3] at H
  have c3b0 : ((Int.tmod aY 7) == 0) = false := beq_eq_false_iff_ne.mpr c3
  have c3b1 : ((Int.tmod aY 7) != 0) = true := bne_iff_ne.mpr c3
  by_cases c70 : (Int.tmod aY 7) = 1
  ·exact absurd (c70.symm.trans hx_.out) (by decide)
  ·rw [if_neg c70] at H
   have c70b0 : ((Int.tmod aY 7) == 1) = false := beq_eq_false_iff_ne.mpr c70
   have c70b1 : ((Int.tmod aY 7) != 1) = true := bne_iff_ne.mpr c70
   by_cases c122 : (Int.tmod aY 7) = 2
   ·exact absurd (c122.symm.trans hx_.out) (by decide)
   ·rw [if_neg c122] at H
    have c122b0 : ((Int.tmod aY 7) == 2) = false := beq_eq_false_iff_ne.mpr c122
    have c122b1 : ((Int.tmod aY 7) != 2) = true := bne_iff_ne.mpr c122
    by_cases c183 : (Int.tmod aY 7) = 3
    ·rw [if_pos c183] at H
     have c183b0 : ((Int.tmod aY 7) == 3) = true := beq_iff_eq.mpr c183
     have c183b1 : ((Int.tmod aY 7) != 3) = false := bne_eq_false_iff_eq.mpr c183
     clear c183
     by_cases c184 : (aA.length : Int) > 0
     ·rw [if_pos c184] at H
      have cN : decide (0 < (aA.length : Int)) = true := decide_eq_true c184
      have cO : decide (0 < aA.length) = true := decide_eq_true (by omega)
      clear c184
      by_cases c185 : (aA.length : Int) = 0
      ·rw [if_pos c185] at H
       exact absurd H (by simp)
      ·rw [if_neg c185] at H
       have c185b0 : ((aA.length : Int) == 0) = false := beq_eq_false_iff_ne.mpr c185
       have c185b1 : ((aA.length : Int) != 0) = true := bne_iff_ne.mpr c185
       have c185b2 : ¬ (aA = []) := fun h_ => c185 (by rw [h_]; rfl)
       obtain ⟨aD, b4⟩ : ∃ j_ : Int, (Int.tmod (wrap64 (aJ)) (aA.length : Int)) = j_ := ⟨_, rfl⟩
       replace H : (if 0 ≤ (aD) then (if (aD) < (aA.length : Int) then ((commit_Learn.f k a3 a4 aI a5 a2 ((rd_T53 aA (aD)).f0) ((rd_T53 aA (aD)).f1) ((rd_T53 aA (aD)).f2) ((rd_T53 aA (aD)).f3) ((rd_T53 aA (aD)).f4) ((rd_T53 aA (aD)).f5) ((rd_T53 aA (aD)).f6) ((rd_T53 aA (aD)).f7)).bind fun bA => (if aA.length + bA.2.2.2.2.2.length < 1466015503701 then (some (bA.1, bA.2.1, bA.2.2.1, bA.2.2.2.1, bA.2.2.2.2.1, aW, aZ, a0, aX, aM, (aA ++ bA.2.2.2.2.2), aN)) else (none))) else (none)) else (none)) = some (r1, r2, r3, r4, r5, r6, r7, r8, r9, r10, r11, r12) := by first | (rw [b4] at H; exact H) | (simp only [b4] at H ⊢; exact H)
       by_cases c187 : 0 ≤ (aD)
       ·rw [if_pos c187] at H
        have c187b0 : decide (0 ≤ (aD)) = true := decide_eq_true c187
        clear c187
        by_cases c188 : (aD) < (aA.length : Int)
        ·rw [if_pos c188] at H
         have c188b0 : decide ((aD) < (aA.length : Int)) = true := decide_eq_true c188
         clear c188
         replace H := Option.bind_eq_some_iff.mp H
         obtain ⟨⟨bE, bF, bG, bH, bI, bX⟩, A1890, H⟩ := H
         (try dsimp only at H)
         have A189 := Aside0.mk A1890
         clear A1890
         by_cases c190 : aA.length + bX.length < 1466015503701
         ·rw [if_pos c190] at H
          have cP := Aside0.mk c190
          clear c190
          obtain ⟨bY, b5⟩ : ∃ y_ : List (S53), y_ = (aA ++ bX) := ⟨_, rfl⟩
          replace H : (some (bE, bF, bG, bH, bI, aW, aZ, a0, aX, aM, bY, aN)) = some (r1, r2, r3, r4, r5, r6, r7, r8, r9, r10, r11, r12) := by first | (rw [b5]; with_reducible exact H) | (have H2_ := (Option.bind_some _ _).symm.trans H; rw [b5]; with_reducible exact H2_) | (have H2_ := (Option.bind_some _ _).symm.trans H; with_reducible exact H2_) | with_reducible exact H | (rw [b5]; exact H) | exact H
          have cS := Aside0.mk b5
          clear b5
          simp only [Option.some.injEq, Prod.mk.injEq] at H
          obtain ⟨rfl, rfl, rfl, rfl, rfl, rfl, rfl, rfl, rfl, rfl, rfl, rfl⟩ := H
          obtain ⟨bJ, bK, cT⟩ := Kd.R_slice aP.out
          subst cT
          obtain ⟨cU, bS, cV⟩ := Kd.R_slice aG.out
          subst cV
          go_enter Try.func38, Try.ntmps38
          try go_wp2_with (first | ((with_reducible refine gate_dst (N := 2) rfl ?_); refine box_event ?hg (N := 2) ?hd (cs := #[.int .i64 a3, .int .i64 a4, .slice bL aI.length bM, .int .i64 a5, .int .i64 a2, .int .i64 aW, .int .i64 aZ, .int .i64 a0, .int .i64 aX, .slice bJ aM.length bK, .slice cU aA.length bS, .bool aN]) (t := 67) ?hr ?_; (case hd => rfl); (case hg => rfl); (case hr => first | (go_simp; done) | (go_simp; rfl)); intro aE hg w193 hbox hb; replace aP := tR aP hb; replace aG := tR aG hb; replace aT := Aside0.mk (Kd.V_below (Kd.V_elderB (mV aT.out) aE (Nat.le_of_eq hg.symm)) hb); have aC := Aside0.mk (hbox); have cW := gS HK hg; replace HK := tE HK hb; have cX := gZ HB hg; replace HB := tB HB hb; clear hb hbox hg) | ((with_reducible refine gate_dst (N := 3) rfl ?_); refine box_event ?hg (N := 3) ?hd (cs := #[.int .u8 aY, .int .u8 aJ]) (t := 71) ?hr ?_; (case hd => rfl); (case hg => rfl); (case hr => first | (go_simp; done) | (go_simp; rfl)); intro bB hg w194 hbox hb; replace aP := tR aP hb; replace aG := tR aG hb; replace aT := Aside0.mk (Kd.V_below (Kd.V_elderB (mV aT.out) bB (Nat.le_of_eq hg.symm)) hb); have aH := Aside0.mk (hbox); have cY := gS HK hg; replace HK := tE HK hb; have cZ := gZ HB hg; replace HB := tB HB hb; have a8 := nL aC hg; have aQ := nG aC hg; replace aC := tK aC hb; clear hb hbox hg) | ((with_reducible refine gate_dst (N := 4) rfl ?_); refine box_event ?hg (N := 4) ?hd (cs := #[.int .i64 0, .int .i64 0, .slice none 0 0, .int .i64 0, .int .i64 0, .int .i64 0, .int .i64 0, .int .i64 0, .int .i64 0, .slice none 0 0, .slice none 0 0, .bool false]) (t := 67) ?hr ?_; (case hd => rfl); (case hg => rfl); (case hr => first | (go_simp; done) | (go_simp; rfl)); intro a7 hg w195 hbox hb; replace aP := tR aP hb; replace aG := tR aG hb; replace aT := Aside0.mk (Kd.V_below (Kd.V_elderB (mV aT.out) a7 (Nat.le_of_eq hg.symm)) hb); have aV := Aside0.mk (hbox); have c0 := gS HK hg; replace HK := tE HK hb; have c1 := gZ HB hg; replace HB := tB HB hb; have a9 := nL aC hg; have aK := nG aC hg; replace aC := tK aC hb; have bZ := nL aH hg; have b0 := nG aH hg; replace aH := tK aH hb; clear hb hbox hg; have hnb196 := aQ.out; have hnc196 := a8.out; have hnb197 := bZ.out; have hnc197 := b0.out; have d3 : w195.cell? ⟨bB, 0, none⟩ = some (.int .u8 aY) := (blk_cell aH.out 0).trans rfl; have d4 : w195.cell? ⟨bB, 1, none⟩ = some (.int .u8 aJ) := (blk_cell aH.out 1).trans rfl; have d5 := blk_frozen aH.out 0; have d6 := blk_frozen aH.out 1; have hnb199 := a9.out; have hnc199 := aK.out; obtain ⟨d7, d8, d9, eA, eB, eC, eD, eE, eF, eG, dF, dG⟩ := cz12 aC.out; obtain ⟨eH, eI, eJ, eK, eL, eM, eN, eO, eP, eQ, dH, dI⟩ := fz12 aC.out))
          have n0_ := Aside0.mk (Kd.R_drew aP.out)
          have n1_ := Aside0.mk (Kd.R_drew aG.out)
          have n2_ := Aside0.mk (Kd.V_drew aT.out)
          have n3_ := Aside0.mk (blk_drew aC.out)
          have n4_ := Aside0.mk (blk_drew aH.out)
          have n5_ := Aside0.mk (blk_drew aV.out)
          have n6_ := Aside0.mk (Kept.drew HK.out)
          have n7_ := Aside0.mk (below_drew1 HB.out)
          clear aP
          clear aG
          clear aT
          clear aC
          clear aH
          clear aV
          clear HK
          clear HB
          have aP := n0_
          have aG := n1_
          have aT := n2_
          have aC := n3_
          have aH := n4_
          have aV := n5_
          have HK := n6_
          have HB := n7_
          clear n0_ n1_ n2_ n3_ n4_ n5_ n6_ n7_
          have p653 : 0 ≤ ((aD) : Int) := of_decide_eq_true (by first | (with_reducible assumption) | assumption)
          have q653 : (aD) < (aA.length : Int) := of_decide_eq_true (by first | (with_reducible assumption) | assumption)
          obtain ⟨a1, e653, cA, cB, cC, cD, cE, cF, cG, cH⟩ := at_T53 (Kd.R_reads' aG.out).2.2 (aD) p653 q653
          cases e653
          replace p653 := eq_true p653
          replace q653 := eq_true q653
          refine start_ (n := 20) (S := fun w' => w'.cell? ⟨aE, 0, none⟩ = some (.int .i64 a3) ∧ w'.cell? ⟨aE, 1, none⟩ = some (.int .i64 a4) ∧ w'.cell? ⟨aE, 2, none⟩ = some (.slice bL aI.length bM) ∧ w'.cell? ⟨aE, 3, none⟩ = some (.int .i64 a5) ∧ w'.cell? ⟨aE, 4, none⟩ = some (.int .i64 a2) ∧ w'.cell? ⟨aE, 5, none⟩ = some (.int .i64 aW) ∧ w'.cell? ⟨aE, 6, none⟩ = some (.int .i64 aZ) ∧ w'.cell? ⟨aE, 7, none⟩ = some (.int .i64 a0) ∧ w'.cell? ⟨aE, 8, none⟩ = some (.int .i64 aX) ∧ w'.cell? ⟨aE, 9, none⟩ = some (.slice bJ aM.length bK) ∧ w'.cell? ⟨aE, 10, none⟩ = some (.slice (some a1) aA.length bS) ∧ w'.cell? ⟨aE, 11, none⟩ = some (.bool aN) ∧ w'.cell? ⟨bB, 0, none⟩ = some (.int .u8 aY) ∧ w'.cell? ⟨bB, 1, none⟩ = some (.int .u8 aJ) ∧ w'.cell? (a1.add (((aD)).toNat * 8)) = some (.int .i64 ((rd_T53 aA (aD)).f0)) ∧ w'.cell? ⟨(a1.add (((aD)).toNat * 8)).block, (a1.add (((aD)).toNat * 8)).off + 1, none⟩ = some (.int .i64 ((rd_T53 aA (aD)).f1)) ∧ w'.cell? ⟨(a1.add (((aD)).toNat * 8)).block, (a1.add (((aD)).toNat * 8)).off + 2, none⟩ = some (.int .i64 ((rd_T53 aA (aD)).f2)) ∧ w'.cell? ⟨(a1.add (((aD)).toNat * 8)).block, (a1.add (((aD)).toNat * 8)).off + 3, none⟩ = some (.int .i64 ((rd_T53 aA (aD)).f3)) ∧ w'.cell? ⟨(a1.add (((aD)).toNat * 8)).block, (a1.add (((aD)).toNat * 8)).off + 4, none⟩ = some (.int .i64 ((rd_T53 aA (aD)).f4)) ∧ w'.cell? ⟨(a1.add (((aD)).toNat * 8)).block, (a1.add (((aD)).toNat * 8)).off + 5, none⟩ = some (.int .i64 ((rd_T53 aA (aD)).f5)) ∧ w'.cell? ⟨(a1.add (((aD)).toNat * 8)).block, (a1.add (((aD)).toNat * 8)).off + 6, none⟩ = some (.slice none 0 0) ∧ w'.cell? ⟨(a1.add (((aD)).toNat * 8)).block, (a1.add (((aD)).toNat * 8)).off + 7, none⟩ = some (.slice none 0 0)) (ds := [18]) #[false, false, false, false, false, false, false, false, false, false, false, false, false, false, false, false, false, false, false, false] (by kernel_rfl) rfl rfl (ct12 aC.out ⟨(blk_cell aH.out 0).trans rfl, (blk_cell aH.out 1).trans rfl, cA, cB, cC, cD, cE, cF, cG, cH⟩) (fun hHeld => ?_); refine with_tabW standbylaw32_step.tab36 standbylaw32_step.bits36 (fun HT_ HW_ => ?_)
          generalize w195.drew = w201 at aP aG aT aC aH aV HK HB cA cB cC cD cE cF cG cH hHeld ⊢
          refine pure_ (i := 0) (N := some 200) (v := ?_) (a' := ?_) (bs 20 1) rfl rfl (any_of HT_.out (by kernel_rfl)) (fun _ _ _ h => h) (Or.inl ⟨by rfl, ?_⟩) ?_ ?_
          rotate_left
          ·intro w'
           go_simp
           with_reducible rfl
          rotate_left
          ·simp only [Act.put, sA, sB, sC, i64_w, i32_w]
           rfl
          refine pure_ (i := 2) (N := some 202) (v := ?_) (a' := ?_) (bs 20 5) rfl rfl (any_of HT_.out (by kernel_rfl)) (fun _ _ _ h => h) (Or.inl ⟨by rfl, ?_⟩) ?_ ?_
          rotate_left
          ·intro w'
           go_simp
           with_reducible rfl
          rotate_left
          ·simp only [Act.put, sA, sB, sC, i64_w, i32_w]
           rfl
          refine pure_ (i := 4) (N := some 204) (v := ?_) (a' := ?_) (bs 20 21) rfl rfl (any_of HT_.out (by kernel_rfl)) (fun _ _ _ h => h) (Or.inl ⟨by rfl, ?_⟩) ?_ ?_
          rotate_left
          ·intro w'
           go_simp
           with_reducible rfl
          rotate_left
          ·simp only [Act.put, sA, sB, sC, i64_w, i32_w]
           rfl
          refine pure_ (i := 7) (N := some 207) (v := ?_) (a' := ?_) (bs 20 149) rfl rfl (any_of HT_.out (by kernel_rfl)) (fun _ _ _ h => h) (Or.inl ⟨by rfl, ?_⟩) ?_ ?_
          rotate_left
          ·intro w'
           go_simp
           with_reducible rfl
          rotate_left
          ·simp only [Act.put, sA, sB, sC, i64_w, i32_w]
           rfl
          refine take_ (i := 1) (N := some 201) (v := ?_) (a' := ?_) (bs 20 151) rfl rfl (take_ofW HT_.out HW_.out (by kernel_rfl)) (fun _ _ _ h => h) (Or.inl ⟨by rfl, ?_⟩) hHeld ?_ ?_
          rotate_left
          ·rintro w' ⟨s0, s1, s2, s3, s4, s5, s6, s7, s8, s9, s10, s11, s12, s13, s14, s15, s16, s17, s18, s19, s20, s21⟩
           go_simp
           with_reducible rfl
          rotate_left
          ·simp only [Act.put, sA, sB, sC, i64_w, i32_w]
           rfl
          refine take_ (i := 3) (N := some 203) (v := ?_) (a' := ?_) (bs 20 159) rfl rfl (take_ofW HT_.out HW_.out (by kernel_rfl)) (fun _ _ _ h => h) (Or.inl ⟨by rfl, ?_⟩) hHeld ?_ ?_
          rotate_left
          ·rintro w' ⟨s0, s1, s2, s3, s4, s5, s6, s7, s8, s9, s10, s11, s12, s13, s14, s15, s16, s17, s18, s19, s20, s21⟩
           go_simp
           with_reducible rfl
          rotate_left
          ·simp only [Act.put, sA, sB, sC, i64_w, i32_w]
           rfl
          refine take_ (i := 5) (N := some 205) (v := ?_) (a' := ?_) (bs 20 191) rfl rfl (take_ofW HT_.out HW_.out (by kernel_rfl)) (fun _ _ _ h => h) (Or.inl ⟨by rfl, ?_⟩) hHeld ?_ ?_
          rotate_left
          ·rintro w' ⟨s0, s1, s2, s3, s4, s5, s6, s7, s8, s9, s10, s11, s12, s13, s14, s15, s16, s17, s18, s19, s20, s21⟩
           go_simp
           with_reducible rfl
          rotate_left
          ·simp only [Act.put, sA, sB, sC, i64_w, i32_w]
           rfl
          refine pure_ (i := 6) (N := some 206) (v := ?_) (a' := ?_) (bs 20 255) rfl rfl (any_of HT_.out (by kernel_rfl)) (fun _ _ _ h => h) (Or.inl ⟨by rfl, ?_⟩) ?_ ?_
          rotate_left
          ·intro w'
           go_simp
           with_reducible rfl
          rotate_left
          ·simp only [Act.put, sA, sB, sC, i64_w, i32_w]
           rfl
          refine take_ (i := 8) (N := some 208) (v := ?_) (a' := ?_) (bs 20 511) rfl rfl (take_ofW HT_.out HW_.out (by kernel_rfl)) (fun _ _ _ h => h) (Or.inl ⟨by rfl, ?_⟩) hHeld ?_ ?_
          rotate_left
          ·rintro w' ⟨s0, s1, s2, s3, s4, s5, s6, s7, s8, s9, s10, s11, s12, s13, s14, s15, s16, s17, s18, s19, s20, s21⟩
           go_simp
           with_reducible rfl
          rotate_left
          ·simp only [Act.put, sA, sB, sC, i64_w, i32_w]
           rfl
          refine pure_ (i := 9) (N := some 209) (v := ?_) (a' := ?_) (bs 20 1023) rfl rfl (any_of HT_.out (by kernel_rfl)) (fun _ _ _ h => h) (Or.inl ⟨by rfl, ?_⟩) ?_ ?_
          rotate_left
          ·intro w'
           go_simp
           with_reducible rfl
          rotate_left
          ·simp only [Act.put, sA, sB, sC, i64_w, i32_w]
           rfl
          refine pure_ (i := 10) (N := some 210) (v := ?_) (a' := ?_) (bs 20 2047) rfl rfl (any_of HT_.out (by kernel_rfl)) (fun _ _ _ h => h) (Or.inl ⟨by rfl, ?_⟩) ?_ ?_
          rotate_left
          ·intro w'
           go_simp
           with_reducible rfl
          rotate_left
          ·simp only [Act.put, sA, sB, sC, i64_w, i32_w]
           rfl
          refine pure_ (i := 11) (N := some 211) (v := ?_) (a' := ?_) (bs 20 4095) rfl rfl (any_of HT_.out (by kernel_rfl)) (fun _ _ _ h => h) (Or.inl ⟨by rfl, ?_⟩) ?_ ?_
          rotate_left
          ·intro w'
           go_simp
           with_reducible rfl
          rotate_left
          ·simp only [Act.put, sA, sB, sC, i64_w, i32_w]
           rfl
          refine take_ (i := 12) (N := some 212) (v := ?_) (a' := ?_) (bs 20 8191) rfl rfl (take_ofW HT_.out HW_.out (by kernel_rfl)) (fun _ _ _ h => h) (Or.inl ⟨by rfl, ?_⟩) hHeld ?_ ?_
          rotate_left
          ·rintro w' ⟨s0, s1, s2, s3, s4, s5, s6, s7, s8, s9, s10, s11, s12, s13, s14, s15, s16, s17, s18, s19, s20, s21⟩
           go_simp
           with_reducible rfl
          rotate_left
          ·simp only [Act.put, sA, sB, sC, i64_w, i32_w]
           rfl
          refine one_ (i := 13) (N := some 213) (bs 20 16383) rfl rfl (one_of HT_.out (by kernel_rfl)) (by decide) (fun K hK => ?_)
          refine goes_ Try.func29 (by kernel_rfl) rfl #[.agg #[.int .i64 a3, .int .i64 a4, .slice bL aI.length bM, .int .i64 a5, .int .i64 a2], .agg #[.int .i64 ((rd_T53 aA (aD)).f0), .int .i64 ((rd_T53 aA (aD)).f1), .int .i64 ((rd_T53 aA (aD)).f2), .int .i64 ((rd_T53 aA (aD)).f3), .int .i64 ((rd_T53 aA (aD)).f4), .int .i64 ((rd_T53 aA (aD)).f5), .slice none 0 0, .slice none 0 0]] (by rfl) rfl rfl (by (try simp only [List.map_toArray, List.map_cons, List.map_nil]); first | done | (simp only [b4]; rfl) | rfl | (simp only [List.length_drop, List.length_take]; rfl)) ?_
          with_reducible refine (commit_Learn.calls k a3 a4 (fun k_ => ((((((a6 k_ ∨ aU k_ ∨ bR k_) ∨ w.heap.size ≤ k_) ∧ (some k_ ≠ (.slice bJ aM.length bK : Value).ownBlock ∧ some k_ ≠ (.slice (some a1) aA.length bS : Value).ownBlock)) ∧ k_ ≠ aE) ∧ k_ ≠ bB) ∧ k_ ≠ a7)) _ _ aI a5 a2 ((rd_T53 aA (aD)).f0) ((rd_T53 aA (aD)).f1) ((rd_T53 aA (aD)).f2) ((rd_T53 aA (aD)).f3) ((rd_T53 aA (aD)).f4) ((rd_T53 aA (aD)).f5) ((rd_T53 aA (aD)).f6) (.slice none 0 0) ((rd_T53 aA (aD)).f7) (.slice none 0 0) bE bF bG bH bI bX _ ?side1 A189.out).mono ?_
          (case side1 => exact aT.out)
          rintro e w202 ⟨v657, eR, rfl, ho0, ho1, hb⟩
          have c2 := (hb.cell (World.block_lt_of_cell? _ _ (hHeld.2.2.2.2.2.2.2.2.2.2.2.2.2.2.1))).trans (hHeld.2.2.2.2.2.2.2.2.2.2.2.2.2.2.1)
          have c4 := (hb.cell (World.block_lt_of_cell? _ _ (hHeld.2.2.2.2.2.2.2.2.2.2.2.2.2.2.2.1))).trans (hHeld.2.2.2.2.2.2.2.2.2.2.2.2.2.2.2.1)
          have c5 := (hb.cell (World.block_lt_of_cell? _ _ (hHeld.2.2.2.2.2.2.2.2.2.2.2.2.2.2.2.2.1))).trans (hHeld.2.2.2.2.2.2.2.2.2.2.2.2.2.2.2.2.1)
          have c6 := (hb.cell (World.block_lt_of_cell? _ _ (hHeld.2.2.2.2.2.2.2.2.2.2.2.2.2.2.2.2.2.1))).trans (hHeld.2.2.2.2.2.2.2.2.2.2.2.2.2.2.2.2.2.1)
          have c7 := (hb.cell (World.block_lt_of_cell? _ _ (hHeld.2.2.2.2.2.2.2.2.2.2.2.2.2.2.2.2.2.2.1))).trans (hHeld.2.2.2.2.2.2.2.2.2.2.2.2.2.2.2.2.2.2.1)
          have c8 := (hb.cell (World.block_lt_of_cell? _ _ (hHeld.2.2.2.2.2.2.2.2.2.2.2.2.2.2.2.2.2.2.2.1))).trans (hHeld.2.2.2.2.2.2.2.2.2.2.2.2.2.2.2.2.2.2.2.1)
          have c9 := (hb.cell (World.block_lt_of_cell? _ _ (hHeld.2.2.2.2.2.2.2.2.2.2.2.2.2.2.2.2.2.2.2.2.1))).trans (hHeld.2.2.2.2.2.2.2.2.2.2.2.2.2.2.2.2.2.2.2.2.1)
          have dA := (hb.cell (World.block_lt_of_cell? _ _ (hHeld.2.2.2.2.2.2.2.2.2.2.2.2.2.2.2.2.2.2.2.2.2))).trans (hHeld.2.2.2.2.2.2.2.2.2.2.2.2.2.2.2.2.2.2.2.2.2)
          refine ⟨_, rfl, ?_⟩
          have n0_ := tR aP hb
          have n1_ := Aside0.mk (Kd.R_elder' (mR aG.out) (Kd.R_base ho1) hb)
          have n2_ := Aside0.mk (Kd.V_elder' (mV aT.out) (Kd.R_base ho1) hb)
          have n3_ := Aside0.mk (Kd.V_lower (Kd.V_mono (ok' := fun k_ => ((a6 k_ ∨ aU k_ ∨ bR k_) ∨ w.heap.size ≤ k_) ∧ some k_ ≠ (eR : Value).ownBlock ∧ some k_ ≠ (.slice bJ aM.length bK : Value).ownBlock ∧ some k_ ≠ (.slice (some a1) aA.length bS : Value).ownBlock ∧ k_ ≠ aE ∧ k_ ≠ bB ∧ k_ ≠ a7) ho0 (fun k_ hk_ => ⟨Or.elim hk_.1 (fun hs_ => hs_.1.1.1.1) (fun hn_ => (.inr (Nat.le_trans (kS HK.out) hn_))), hk_.2, Or.elim hk_.1 (fun hs_ => hs_.1.1.1.2.1) (fun hn_ => (Kd.fresh' (Kd.R_lt (mR aP.out)) k_ hn_)), Or.elim hk_.1 (fun hs_ => hs_.1.1.1.2.2) (fun hn_ => (Kd.fresh' (Kd.R_lt (mR aG.out)) k_ hn_)), Or.elim hk_.1 (fun hs_ => hs_.1.1.2) (fun hn_ => (Kd.freshB (mK aC.out) k_ hn_)), Or.elim hk_.1 (fun hs_ => hs_.1.2) (fun hn_ => (Kd.freshB (mK aH.out) k_ hn_)), Or.elim hk_.1 (fun hs_ => hs_.2) (fun hn_ => (Kd.freshB (mK aV.out) k_ hn_))⟩)) (kZ HB.out))
          have n4_ := Aside0.mk (Kd.R_lower (Kd.R_new' (Kd.R_newM (M := fun k_ => ((a6 k_ ∨ aU k_) ∨ w.heap.size ≤ k_)) (Kd.R_mono (ok' := fun k_ => True) ho1 (fun _ hk_ => trivial)) (kS HK.out) (fun k_ h_ => .inr h_)) (Kd.R_lt (mR aG.out))) (kZ HB.out))
          have n5_ := tK aC hb
          have n6_ := tK aH hb
          have n7_ := tK aV hb
          have n8_ := tE HK hb
          have n9_ := tB HB hb
          clear aP
          clear aG
          clear aT
          clear aC
          clear aH
          clear aV
          clear HK
          clear HB
          have aP := n0_
          have aG := n1_
          have aT := n2_
          have b6 := n3_
          have b3 := n4_
          have aC := n5_
          have aH := n6_
          have aV := n7_
          have HK := n8_
          have HB := n9_
          clear n0_ n1_ n2_ n3_ n4_ n5_ n6_ n7_ n8_ n9_
          (try clear hb)
          (try clear hb2)
          (try clear hk)
          (try clear hi)
          (try clear ho0)
          (try clear ho1)
          obtain ⟨bC, bD, cJ⟩ := Kd.V_slice b6.out
          (first | subst cJ | (injection cJ with f1_ f2_ f3_; have f4_ := f1_.symm; have f5_ := f3_.symm; clear f1_ f2_ f3_; subst f4_; subst f5_))
          refine hK.out _ _ (ct12 aC.out ⟨(blk_cell aH.out 0).trans rfl, (blk_cell aH.out 1).trans rfl, c2, c4, c5, c6, c7, c8, c9, dA⟩) (fun hHeld => ?_)
          clear hK K
          refine norm_ (a' := ?_) ?_ ?_
          rotate_left
          ·show Act.put _ (some 213) _ = _
           simp only [Act.put, sA, sB, sC, i64_w, i32_w]
           rfl
          refine pure_ (i := 14) (N := some 199) (v := ?_) (a' := ?_) (bs 20 32767) rfl rfl (any_of HT_.out (by kernel_rfl)) (fun _ _ _ h => h) (Or.inl ⟨by rfl, ?_⟩) ?_ ?_
          rotate_left
          ·intro w'
           go_simp
           with_reducible rfl
          rotate_left
          ·simp only [Act.put, sA, sB, sC, i64_w, i32_w]
           rfl
          refine pure_ (i := 15) (N := some 214) (v := ?_) (a' := ?_) (bs 20 65535) rfl rfl (any_of HT_.out (by kernel_rfl)) (fun _ _ _ h => h) (Or.inl ⟨by rfl, ?_⟩) ?_ ?_
          rotate_left
          ·intro w'
           go_simp
           with_reducible rfl
          rotate_left
          ·simp only [Act.put, sA, sB, sC, i64_w, i32_w]
           rfl
          refine pure_ (i := 16) (N := some 215) (v := ?_) (a' := ?_) (bs 20 131071) rfl rfl (any_of HT_.out (by kernel_rfl)) (fun _ _ _ h => h) (Or.inl ⟨by rfl, ?_⟩) ?_ ?_
          rotate_left
          ·intro w'
           go_simp
           with_reducible rfl
          rotate_left
          ·simp only [Act.put, sA, sB, sC, i64_w, i32_w]
           rfl
          refine pure_ (i := 17) (N := some 216) (v := ?_) (a' := ?_) (bs 20 262143) rfl rfl (any_of HT_.out (by kernel_rfl)) (fun _ _ _ h => h) (Or.inl ⟨by rfl, ?_⟩) ?_ ?_
          rotate_left
          ·intro w'
           go_simp
           with_reducible rfl
          rotate_left
          ·simp only [Act.put, sA, sB, sC, i64_w, i32_w]
           rfl
          refine last_ (i := 18) (N := none) (bs 20 524287) rfl rfl (one_of HT_.out (by kernel_rfl)) (by decide) (fun K hK => ?_)
          have hs203 : w202.cell? ⟨aE, 0, none⟩ = some (.int .i64 a3) := (blk_cell aC.out 0).trans rfl
          have hfs203 := blk_frozen aC.out 0
          have hns203_1 := aQ.out
          have hns203_2 := aK.out
          have hms203_1 := a8.out
          have hms203_2 := a9.out
          have hs204 : w202.cell? ⟨aE, 1, none⟩ = some (.int .i64 a4) := (blk_cell aC.out 1).trans rfl
          have hfs204 := blk_frozen aC.out 1
          have hns204_1 := aQ.out
          have hns204_2 := aK.out
          have hms204_1 := a8.out
          have hms204_2 := a9.out
          have hs206 : w202.cell? ⟨aE, 2, none⟩ = some (.slice bL aI.length bM) := (blk_cell aC.out 2).trans rfl
          have hfs206 := blk_frozen aC.out 2
          have hns206_1 := aQ.out
          have hns206_2 := aK.out
          have hms206_1 := a8.out
          have hms206_2 := a9.out
          have hs207 : w202.cell? ⟨aE, 3, none⟩ = some (.int .i64 a5) := (blk_cell aC.out 3).trans rfl
          have hfs207 := blk_frozen aC.out 3
          have hns207_1 := aQ.out
          have hns207_2 := aK.out
          have hms207_1 := a8.out
          have hms207_2 := a9.out
          have hs208 : w202.cell? ⟨aE, 4, none⟩ = some (.int .i64 a2) := (blk_cell aC.out 4).trans rfl
          have hfs208 := blk_frozen aC.out 4
          have hns208_1 := aQ.out
          have hns208_2 := aK.out
          have hms208_1 := a8.out
          have hms208_2 := a9.out
          refine skip_ (w1 := ?_) (by rfl) rfl ?_ ?_
          rotate_left
          ·go_simp
           rfl
          refine hK.out _ _ ?_
          clear hK K
          refine pure_ (i := 19) (N := some 5) (v := ?_) (a' := ?_) (bs 20 1048575) rfl rfl (any_of HT_.out (by kernel_rfl)) (fun _ _ _ h => h) (Or.inl ⟨by rfl, ?_⟩) ?_ ?_
          rotate_left
          ·intro w'
           go_simp
           with_reducible rfl
          rotate_left
          ·simp only [Act.put, sA, sB, sC, i64_w, i32_w]
           rfl
          refine done_ (done_of HT_.out (by kernel_rfl)) ?_
          obtain ⟨eS, eT, eU, eV, eW, eX, eY, eZ, e0, e1, dJ, dK⟩ := cz12 aC.out
          obtain ⟨e2, e3, e4, e5, e6, e7, e8, e9, fA, fB, dL, dM⟩ := fz12 aC.out
          obtain ⟨cI, b9, dB⟩ := Kd.R_slice b3.out
          subst dB
          try go_wp2_with (first | ((with_reducible refine gate_builtin (b := .append) (xs := #[.tmp 247, .tmp 248]) rfl ?_); at_builtin; refine Kd.R_append_rows k53 (w0 := w0) w0.heap.size rfl (.tmp 247) (.tmp 248) 43 53 (.agg #[(.int .i64 0), (.int .i64 0), (.int .i64 0), (.int .i64 0), (.int .i64 0), (.int .i64 0), (.slice none 0 0), (.slice none 0 0)]) 96 rfl Try.underlying43 info53 rfl (by decide) (by omega) (.slice (some a1) aA.length bS) aA bX _ _ _ (fun k_ => ((a6 k_ ∨ aU k_) ∨ w.heap.size ≤ k_) ∧ some k_ ≠ (.slice cI bX.length b9 : Value).ownBlock) (fun _ => False) rfl rfl ?aO ?aR (fun _ _ h => h) (fun _ h => h.elim) ?aF ?aB ?aS ?aL ?_; (case aR => refine (Kd.R_reads' (e := 53) (base := w0.heap.size) (ok := fun k_ => ((((a6 k_ ∨ aU k_) ∨ w.heap.size ≤ k_) ∧ True) ∧ some k_ ≠ (.slice (some a1) aA.length bS : Value).ownBlock)) (n := bX.length) (c := b9) ?_).2.2; exact (mR (Kd.R_mono (rf5 aE 0 (Kd.R_types b3.out aC.out (by decide)) (fun _ hk => hk.2) (.int .i64 bE) (.int .i64 bF) (.slice bC bG.length bD) (.int .i64 bH) (.int .i64 bI)) (fun _ h_ => h_.1)))); (case aB => exact (kB HB.out)); (case aF => exact (fun k_ hk => ⟨(.inr (Nat.le_trans (show Kept w _ (fun k_ => a6 k_ ∨ aU k_) from (kK HK.out)).1 hk)), Kd.fresh' (Kd.R_lt (mR (Kd.R_mono (rf5 aE 0 (Kd.R_types b3.out aC.out (by decide)) (fun _ hk => hk.2) (.int .i64 bE) (.int .i64 bF) (.slice bC bG.length bD) (.int .i64 bH) (.int .i64 bI)) (fun _ h_ => h_.1)))) k_ hk⟩)); (case aO => exact (mR (Kd.R_mono (rf5 aE 0 (Kd.R_types aG.out aC.out (by decide)) (fun _ hk => hk.2) (.int .i64 bE) (.int .i64 bF) (.slice bC bG.length bD) (.int .i64 bH) (.int .i64 bI)) (fun _ hk => ⟨hk.1.1, hk.1.2⟩)))); (case aS => exact (kZ HB.out)); (case aL => have := cP.out; omega); intro v665 w210 ho hb hg hat; rw [← cS.out] at ho; have n0_ := Aside0.mk (Kd.R_over' (mR (Kd.R_mono (rf5 aE 0 (Kd.R_types aP.out aC.out (by decide)) (fun _ hk => hk.2) (.int .i64 bE) (.int .i64 bF) (.slice bC bG.length bD) (.int .i64 bH) (.int .i64 bI)) (fun _ h_ => h_.1))) (Kd.R_typed (mR (Kd.R_mono (rf5 aE 0 (Kd.R_types aG.out aC.out (by decide)) (fun _ hk => hk.2) (.int .i64 bE) (.int .i64 bF) (.slice bC bG.length bD) (.int .i64 bH) (.int .i64 bI)) (fun _ h_ => h_.1)))) (by decide) hg); have n1_ := Aside0.mk (Kd.V_afterv (ok := (fun k_ => ((a6 k_ ∨ aU k_ ∨ bR k_) ∨ w.heap.size ≤ k_) ∧ some k_ ≠ (.slice bJ aM.length bK : Value).ownBlock ∧ some k_ ≠ (.slice cI bX.length b9 : Value).ownBlock ∧ k_ ≠ aE ∧ k_ ≠ bB ∧ k_ ≠ a7)) (mV (Kd.V_mono (vf5 aE 0 (Kd.V_mono aT.out (fun k_ hk => (⟨hk, hk.1.1.1.2⟩ : _ ∧ k_ ≠ aE))) (fun _ hk => hk.2) (.int .i64 bE) (.int .i64 bF) (.slice bC bG.length bD) (.int .i64 bH) (.int .i64 bI)) (fun _ hk => ⟨⟨hk.1.1.1.1.1.1, ⟨hk.1.1.1.1.1.2.1, ⟨hk.1.2, ⟨hk.1.1.1.1.2, ⟨hk.1.1.1.2, hk.1.1.2⟩⟩⟩⟩⟩, hk.1.1.1.1.1.2.2⟩))) hg hat); have n2_ := Aside0.mk (blk_grown (g := aE) (o := .cells #[.int .i64 bE, .int .i64 bF, .slice bC bG.length bD, .int .i64 bH, .int .i64 bI, .int .i64 aW, .int .i64 aZ, .int .i64 a0, .int .i64 aX, .slice bJ aM.length bK, .slice (some a1) aA.length bS, .bool aN] 67 (0, 0)) (by exact (mK (pt12_0_5 aC.out))) hg (Kd.R_ne aG.out aC.out (by decide))); have n3_ := Aside0.mk (blk_grown (g := bB) (o := .cells #[.int .u8 aY, .int .u8 aJ] 71 (0, 0)) (by exact (mK (fr (fr (fr (fr (fr aH.out aQ.out) aQ.out) aQ.out) aQ.out) aQ.out))) hg (Kd.R_ne aG.out aH.out (by decide))); have n4_ := Aside0.mk (blk_grown (g := a7) (o := .cells #[.int .i64 0, .int .i64 0, .slice none 0 0, .int .i64 0, .int .i64 0, .int .i64 0, .int .i64 0, .int .i64 0, .int .i64 0, .slice none 0 0, .slice none 0 0, .bool false] 67 (0, 0)) (by exact (mK (fr (fr (fr (fr (fr aV.out aK.out) aK.out) aK.out) aK.out) aK.out))) hg (Kd.R_ne aG.out aV.out (by decide))); have n5_ := Aside0.mk (Kd.V_afterv (ok := (fun k_ => ((a6 k_ ∨ aU k_ ∨ bR k_) ∨ w.heap.size ≤ k_) ∧ some k_ ≠ (.slice bJ aM.length bK : Value).ownBlock ∧ some k_ ≠ (.slice cI bX.length b9 : Value).ownBlock ∧ k_ ≠ aE ∧ k_ ≠ bB ∧ k_ ≠ a7)) (mV (Kd.V_mono (vf5 aE 0 (Kd.V_mono b6.out (fun k_ hk => (⟨hk, hk.2.2.2.2.1⟩ : _ ∧ k_ ≠ aE))) (fun _ hk => hk.2) (.int .i64 bE) (.int .i64 bF) (.slice bC bG.length bD) (.int .i64 bH) (.int .i64 bI)) (fun _ hk => ⟨⟨hk.1.1, ⟨hk.1.2.2.1, ⟨hk.1.2.1, ⟨hk.1.2.2.2.2.1, ⟨hk.1.2.2.2.2.2.1, hk.1.2.2.2.2.2.2⟩⟩⟩⟩⟩, hk.1.2.2.2.1⟩))) hg hat); have n6_ := Aside0.mk (Kd.R_after (ok := (fun k_ => ((a6 k_ ∨ aU k_) ∨ w.heap.size ≤ k_))) (mR (Kd.R_mono (rf5 aE 0 (Kd.R_types b3.out aC.out (by decide)) (fun _ hk => hk.2) (.int .i64 bE) (.int .i64 bF) (.slice bC bG.length bD) (.int .i64 bH) (.int .i64 bI)) (fun _ hk => ⟨hk.1.1.1, hk.1.2⟩))) hg hat); have n7_ := Aside0.mk (hb); have n8_ := Aside0.mk (Kept.of_grown (S := (fun k_ => a6 k_ ∨ aU k_)) hg (kK HK.out) (fun k_ e_ => (aG.out.1 k_ e_).1)); have n9_ := Aside0.mk (ho); clear aP; clear aT; clear aC; clear aH; clear aV; clear b6; clear b3; clear HB; clear HK; clear aG; have aP := n0_; have aT := n1_; have aC := n2_; have aH := n3_; have aV := n4_; have b6 := n5_; have b3 := n6_; have HB := n7_; have HK := n8_; have cK := n9_; clear n0_ n1_ n2_ n3_ n4_ n5_ n6_ n7_ n8_ n9_; clear ho hb hg hat; obtain ⟨bT, bU, dC⟩ := Kd.R_slice cK.out; subst dC; obtain ⟨fC, fD, fE, fF, fG, fH, fI, fJ, fK, fL, dN, dO⟩ := cz12 aC.out; obtain ⟨fM, fN, fO, fP, fQ, fR, fS, fT, fU, fV, dP, dQ⟩ := fz12 aC.out; obtain ⟨fW, fX, fY, fZ, f8, f9, gA, gB, gC, gD, dR, dS⟩ := cz12 aV.out; obtain ⟨gE, gF, gG, gH, gI, gJ, gK, gL, gM, gN, dT, dU⟩ := fz12 aV.out))
          refine bodyPost_ret (results_cell_row rfl _ _ a7 67 #[.int .i64 bE, .int .i64 bF, .slice bC bG.length bD, .int .i64 bH, .int .i64 bI, .int .i64 aW, .int .i64 aZ, .int .i64 a0, .int .i64 aX, .slice bJ aM.length bK, .slice bT bY.length bU, .bool aN] (0, 0) _ rfl (by exact (mK (pt12_0_12 (fr aV.out aK.out)))) Try.underlying67 rfl (by kernel_rfl)) rfl ?_
          exact ⟨_, _, _, by first | rfl | (simp [errW_none, errW_some] <;> rfl) | (simp only [← b4]; first | rfl | (simp [errW_none, errW_some] <;> rfl)) | (simp [*, errW_none, errW_some] <;> rfl), by refine mV ?_; exact Kd.V_mono (vf12 a7 0 (Kd.V_far (p := ⟨aE, 10, none⟩) (Kd.V_mono (Kd.V_mono b6.out (fun k_ hk => (⟨hk, hk.1.2.2.2.1⟩ : _ ∧ k_ ≠ aE))) (fun k_ hk => (⟨hk, hk.1.1.2.2.2.2.2⟩ : _ ∧ k_ ≠ a7))) (fun _ hk => hk.1.2) (.slice bT bY.length bU)) (fun _ hk => hk.2) (.int .i64 bE) (.int .i64 bF) (.slice bC bG.length bD) (.int .i64 bH) (.int .i64 bI) (.int .i64 aW) (.int .i64 aZ) (.int .i64 a0) (.int .i64 aX) (.slice bJ aM.length bK) (.slice bT bY.length bU) (.bool aN)) (fun _ hk => ⟨hk.1.1.1.1, ⟨hk.1.1.1.2.1, hk.1.1.2⟩⟩), by refine mR ?_; exact Kd.R_mono (rf12 a7 0 (Kd.R_far (p := ⟨aE, 10, none⟩) (Kd.R_types (Kd.R_types aP.out aC.out (by decide)) aV.out (by decide)) (fun _ hk => hk.1.2) (.slice bT bY.length bU)) (fun _ hk => hk.2) (.int .i64 bE) (.int .i64 bF) (.slice bC bG.length bD) (.int .i64 bH) (.int .i64 bI) (.int .i64 aW) (.int .i64 aZ) (.int .i64 a0) (.int .i64 aX) (.slice bJ aM.length bK) (.slice bT bY.length bU) (.bool aN)) (fun _ hk => hk.1.1), by refine mR ?_; exact Kd.R_mono (rf12 a7 0 (Kd.R_far (p := ⟨aE, 10, none⟩) (Kd.R_types (Kd.R_types cK.out aC.out (by decide)) aV.out (by decide)) (fun _ hk => hk.1.2) (.slice bT bY.length bU)) (fun _ hk => hk.2) (.int .i64 bE) (.int .i64 bF) (.slice bC bG.length bD) (.int .i64 bH) (.int .i64 bI) (.int .i64 aW) (.int .i64 aZ) (.int .i64 a0) (.int .i64 aX) (.slice bJ aM.length bK) (.slice bT bY.length bU) (.bool aN)) (fun _ hk => hk.1.1.1), (kB HB.out), (kK HK.out)⟩
         ·rw [if_neg c190] at H
          exact absurd H (by simp)
        ·rw [if_neg c188] at H
         exact absurd H (by simp)
       ·rw [if_neg c187] at H
        exact absurd H (by simp)
     ·rw [if_neg c184] at H
      have cN : decide (0 < (aA.length : Int)) = false := decide_eq_false c184
      have cO : decide (0 < aA.length) = false := decide_eq_false (by omega)
      clear c184
      simp only [Option.some.injEq, Prod.mk.injEq] at H
      obtain ⟨rfl, rfl, rfl, rfl, rfl, rfl, rfl, rfl, rfl, rfl, rfl, rfl⟩ := H
      obtain ⟨b7, b8, dD⟩ := Kd.R_slice aP.out
      subst dD
      obtain ⟨bP, bQ, dE⟩ := Kd.R_slice aG.out
      subst dE
      have hcapx := (Kd.R_reads' aG.out).2.1
      go_enter Try.func38, Try.ntmps38
      go_wp2_with (first | ((with_reducible refine gate_dst (N := 2) rfl ?_); refine box_event ?hg (N := 2) ?hd (cs := #[.int .i64 a3, .int .i64 a4, .slice bL aI.length bM, .int .i64 a5, .int .i64 a2, .int .i64 aW, .int .i64 aZ, .int .i64 a0, .int .i64 aX, .slice b7 aM.length b8, .slice bP aA.length bQ, .bool aN]) (t := 67) ?hr ?_; (case hd => rfl); (case hg => rfl); (case hr => first | (go_simp; done) | (go_simp; rfl)); intro aE hg w217 hbox hb; replace aP := tR aP hb; replace aG := tR aG hb; replace aT := Aside0.mk (Kd.V_below (Kd.V_elderB (mV aT.out) aE (Nat.le_of_eq hg.symm)) hb); have aC := Aside0.mk (hbox); have cW := gS HK hg; replace HK := tE HK hb; have cX := gZ HB hg; replace HB := tB HB hb; clear hb hbox hg) | ((with_reducible refine gate_dst (N := 3) rfl ?_); refine box_event ?hg (N := 3) ?hd (cs := #[.int .u8 aY, .int .u8 aJ]) (t := 71) ?hr ?_; (case hd => rfl); (case hg => rfl); (case hr => first | (go_simp; done) | (go_simp; rfl)); intro bB hg w218 hbox hb; replace aP := tR aP hb; replace aG := tR aG hb; replace aT := Aside0.mk (Kd.V_below (Kd.V_elderB (mV aT.out) bB (Nat.le_of_eq hg.symm)) hb); have aH := Aside0.mk (hbox); have cY := gS HK hg; replace HK := tE HK hb; have cZ := gZ HB hg; replace HB := tB HB hb; have a8 := nL aC hg; have aQ := nG aC hg; replace aC := tK aC hb; clear hb hbox hg) | ((with_reducible refine gate_dst (N := 4) rfl ?_); refine box_event ?hg (N := 4) ?hd (cs := #[.int .i64 0, .int .i64 0, .slice none 0 0, .int .i64 0, .int .i64 0, .int .i64 0, .int .i64 0, .int .i64 0, .int .i64 0, .slice none 0 0, .slice none 0 0, .bool false]) (t := 67) ?hr ?_; (case hd => rfl); (case hg => rfl); (case hr => first | (go_simp; done) | (go_simp; rfl)); intro a7 hg w219 hbox hb; replace aP := tR aP hb; replace aG := tR aG hb; replace aT := Aside0.mk (Kd.V_below (Kd.V_elderB (mV aT.out) a7 (Nat.le_of_eq hg.symm)) hb); have aV := Aside0.mk (hbox); have c0 := gS HK hg; replace HK := tE HK hb; have c1 := gZ HB hg; replace HB := tB HB hb; have a9 := nL aC hg; have aK := nG aC hg; replace aC := tK aC hb; have bZ := nL aH hg; have b0 := nG aH hg; replace aH := tK aH hb; clear hb hbox hg; have hnb220 := aQ.out; have hnc220 := a8.out; have hnb221 := bZ.out; have hnc221 := b0.out; have gO : w219.cell? ⟨bB, 0, none⟩ = some (.int .u8 aY) := (blk_cell aH.out 0).trans rfl; have gP : w219.cell? ⟨bB, 1, none⟩ = some (.int .u8 aJ) := (blk_cell aH.out 1).trans rfl; have gQ := blk_frozen aH.out 0; have gR := blk_frozen aH.out 1; have hnb223 := a9.out; have hnc223 := aK.out; obtain ⟨gT, gU, gV, gW, gX, gY, g0, g1, g2, g3, dV, dW⟩ := cz12 aC.out; obtain ⟨g4, g5, g6, g7, g8, g9, hA, hC, hD, hE, dX, dY⟩ := fz12 aC.out; obtain ⟨hF, hG, hH, hI, hJ, hL, hM, hN, hO, hP, dZ, d0⟩ := cz12 aV.out; obtain ⟨hQ, hR, hS, hT, hU, hV, hW, hX, hY, hZ, d1, d2⟩ := fz12 aV.out) | ((with_reducible refine gate_builtin (b := .append) (xs := #[.tmp 247, .tmp 248]) rfl ?_); at_builtin; refine append_nil_ rfl (.tmp 247) (.tmp 248) 43 53 (.agg #[(.int .i64 0), (.int .i64 0), (.int .i64 0), (.int .i64 0), (.int .i64 0), (.int .i64 0), (.slice none 0 0), (.slice none 0 0)]) 8 96 rfl Try.underlying43 info53 _ _ _ rfl rfl hcapx ?_))
      refine bodyPost_ret (results_cell_row rfl _ _ a7 67 #[.int .i64 a3, .int .i64 a4, .slice bL aI.length bM, .int .i64 a5, .int .i64 a2, .int .i64 aW, .int .i64 aZ, .int .i64 a0, .int .i64 aX, .slice b7 aM.length b8, .slice bP aA.length bQ, .bool aN] (0, 0) _ rfl (by exact (mK (pt12_0_12 (fr aV.out aK.out)))) Try.underlying67 rfl (by kernel_rfl)) rfl ?_
      exact ⟨_, _, _, by first | rfl | (simp [errW_none, errW_some] <;> rfl) | (simp [*, errW_none, errW_some] <;> rfl), by refine mV ?_; exact Kd.V_mono (vf12 a7 0 (Kd.V_far (p := ⟨aE, 10, none⟩) (Kd.V_mono (Kd.V_mono aT.out (fun k_ hk => (⟨hk, hk.1.1.2⟩ : _ ∧ k_ ≠ aE))) (fun k_ hk => (⟨hk, hk.1.2⟩ : _ ∧ k_ ≠ a7))) (fun _ hk => hk.1.2) (.slice bP aA.length bQ)) (fun _ hk => hk.2) (.int .i64 a3) (.int .i64 a4) (.slice bL aI.length bM) (.int .i64 a5) (.int .i64 a2) (.int .i64 aW) (.int .i64 aZ) (.int .i64 a0) (.int .i64 aX) (.slice b7 aM.length b8) (.slice bP aA.length bQ) (.bool aN)) (fun _ hk => ⟨hk.1.1.1.1.1.1, ⟨hk.1.1.1.1.1.2.1, hk.1.1.1.1.1.2.2⟩⟩), by refine mR ?_; exact Kd.R_mono (rf12 a7 0 (Kd.R_far (p := ⟨aE, 10, none⟩) (Kd.R_types (Kd.R_types aP.out aC.out (by decide)) aV.out (by decide)) (fun _ hk => hk.1.2) (.slice bP aA.length bQ)) (fun _ hk => hk.2) (.int .i64 a3) (.int .i64 a4) (.slice bL aI.length bM) (.int .i64 a5) (.int .i64 a2) (.int .i64 aW) (.int .i64 aZ) (.int .i64 a0) (.int .i64 aX) (.slice b7 aM.length b8) (.slice bP aA.length bQ) (.bool aN)) (fun _ hk => hk.1.1), by refine mR ?_; exact Kd.R_mono (rf12 a7 0 (Kd.R_far (p := ⟨aE, 10, none⟩) (Kd.R_types (Kd.R_types aG.out aC.out (by decide)) aV.out (by decide)) (fun _ hk => hk.1.2) (.slice bP aA.length bQ)) (fun _ hk => hk.2) (.int .i64 a3) (.int .i64 a4) (.slice bL aI.length bM) (.int .i64 a5) (.int .i64 a2) (.int .i64 aW) (.int .i64 aZ) (.int .i64 a0) (.int .i64 aX) (.slice b7 aM.length b8) (.slice bP aA.length bQ) (.bool aN)) (fun _ hk => hk.1.1), (kB HB.out), (kK HK.out)⟩
    ·exact absurd hx_.out c183
end Go.Proofs.Ytedoloapddmanaa.PB
