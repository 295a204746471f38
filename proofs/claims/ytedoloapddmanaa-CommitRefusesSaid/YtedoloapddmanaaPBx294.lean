-- Written by a program of this session (wip/tools) over the kit's print.
import Derived.Test.YtedoloapddmanaaPBx0
import Derived.Test.YtedoloapddmanaaSh
import Derived.Test.YtedoloapddmanaaSh2
import Derived.Test.YtedoloapddmanaaSh4
import Derived.Test.YtedoloapddmanaaPBx2
import Derived.Test.YtedoloapddmanaaPBx7
import Derived.Test.YtedoloapddmanaaPBx8
import Derived.Test.YtedoloapddmanaaPBx10
import Derived.Test.YtedoloapddmanaaPBx11
import Derived.Test.YtedoloapddmanaaPBx25
import Derived.Test.YtedoloapddmanaaPBx299
namespace Go.Proofs.Ytedoloapddmanaa.PB
open Go.RowKit Go.Proofs.YtedoloapddmanaaW.PrintWords Go.Proofs.YtedoloapddmanaaW.PrintLast Go.Proofs.YtedoloapddmanaaW.PrintMore
attribute [local go_sem] max2_int min2_int max_two min_two max_three min_three max_four min_four   -- for this text's walks alone
set_option linter.unusedVariables false
set_option linter.unusedSimpArgs false

/-! ### standbylaw32_step: function 38 -/
set_option maxHeartbeats 8000000 in
set_option maxRecDepth 100000 in
theorem standbylaw32_step.calls4 (k : Nat) (aW : Int) (aX : Int) (b4 : Nat → Prop) (bB : Option Addr) (bC : Nat) (aI : List Int) (aY : Int) (aU : Int) (a0 : Int) (a3 : Int) (a4 : Int) (a1 : Int) (a6 : Nat → Prop) (bR : Value) (aN : List Int) (a2 : Nat → Prop) (bS : Value) (aA : List (S53)) (aK : Bool) (aP : Int) (aJ : Int) (r1 : Int) (r2 : Int) (r3 : List Int) (r4 : Int) (r5 : Int) (r6 : Int) (r7 : Int) (r8 : Int) (r9 : Int) (r10 : List Int) (r11 : List (S53)) (r12 : Bool) (w0 w : World) (hB : Below w0.heap.size w0 w) (cL : Kd.V (Kd.int .i64) 3 w w0.heap.size (fun k_ => b4 k_ ∧ some k_ ≠ (bR : Value).ownBlock ∧ some k_ ≠ (bS : Value).ownBlock) (.slice bB aI.length bC) aI) (cM : Kd.R (Kd.int .i64) 3 w w0.heap.size a6 bR aN) (cG : Kd.R k53 53 w w0.heap.size a2 bS aA) (h : standbylaw32_step.f k aW aX aI aY aU a0 a3 a4 a1 aN aA aK aP aJ = some (r1, r2, r3, r4, r5, r6, r7, r8, r9, r10, r11, r12)) (hx_ : Aside0 (Int.tmod aP 7 = 4)) :
  Calls Try.prog 38 #[.agg #[.int .i64 aW, .int .i64 aX, .slice bB aI.length bC, .int .i64 aY, .int .i64 aU, .int .i64 a0, .int .i64 a3, .int .i64 a4, .int .i64 a1, bR, bS, .bool aK], .agg #[.int .u8 aP, .int .u8 aJ]] w fun e w' => ∃ v2_ v9_ v10_ : Value, e = .returned (.agg #[.int .i64 r1, .int .i64 r2, v2_, .int .i64 r4, .int .i64 r5, .int .i64 r6, .int .i64 r7, .int .i64 r8, .int .i64 r9, v9_, v10_, .bool r12]) ∧ Kd.V (Kd.int .i64) 3 w' w0.heap.size (fun k_ => ((a6 k_ ∨ a2 k_ ∨ b4 k_) ∨ w.heap.size ≤ k_) ∧ some k_ ≠ (v9_ : Value).ownBlock ∧ some k_ ≠ (v10_ : Value).ownBlock) v2_ r3 ∧ Kd.R (Kd.int .i64) 3 w' w0.heap.size (fun k_ => ((a6 k_ ∨ a2 k_) ∨ w.heap.size ≤ k_)) v9_ r10 ∧ Kd.R k53 53 w' w0.heap.size (fun k_ => ((a6 k_ ∨ a2 k_) ∨ w.heap.size ≤ k_)) v10_ r11 ∧ Below w0.heap.size w0 w' ∧ Kept w w' (fun k_ => a6 k_ ∨ a2 k_) := by
 have hu67 := Try.underlying67
 have hu71 := Try.underlying71
 have hu24 := Try.underlying24
 have hu26 := Try.underlying26
 have hu53 := Try.underlying53
 have aT := Aside0.mk (show Kd.V (Kd.int .i64) 3 w w0.heap.size (fun k_ => ((a6 k_ ∨ a2 k_ ∨ b4 k_) ∨ w.heap.size ≤ k_) ∧ some k_ ≠ (bR : Value).ownBlock ∧ some k_ ≠ (bS : Value).ownBlock) (.slice bB aI.length bC) aI from Kd.V_mono cL (fun k_ hk => ⟨.inl (.inr (.inr hk.1)), hk.2⟩))
 have aM := Aside0.mk (show Kd.R (Kd.int .i64) 3 w w0.heap.size (fun k_ => ((a6 k_ ∨ a2 k_) ∨ w.heap.size ≤ k_)) bR aN from Kd.R_mono cM (fun k_ hk => (.inl (.inl hk))))
 have aE := Aside0.mk (show Kd.R k53 53 w w0.heap.size (fun k_ => ((a6 k_ ∨ a2 k_) ∨ w.heap.size ≤ k_)) bS aA from Kd.R_mono cG (fun k_ hk => (.inl (.inr hk))))
 have HK := Aside0.mk (Kept.refl w (fun k_ => a6 k_ ∨ a2 k_))
 have HW0 := Aside0.mk hB.size
 have HB := Aside0.mk hB
 clear hB
 have H := h
 unfold standbylaw32_step.f at H
 clear h
 by_cases c3 : (Int.tmod aP 7) = 0
 ·exact absurd (c3.symm.trans hx_.out) (by decide)
 ·rw [if_neg c3] at H
  have c3b0 : ((Int.tmod aP 7) == 0) = false := beq_eq_false_iff_ne.mpr c3
  have c3b1 : ((Int.tmod aP 7) != 0) = true := bne_iff_ne.mpr c3
  by_cases c70 : (Int.tmod aP 7) = 1
  ·exact absurd (c70.symm.trans hx_.out) (by decide)
  ·rw [if_neg c70] at H
   have c70b0 : ((Int.tmod aP 7) == 1) = false := beq_eq_false_iff_ne.mpr c70
   have c70b1 : ((Int.tmod aP 7) != 1) = true := bne_iff_ne.mpr c70
   by_cases c122 : (Int.tmod aP 7) = 2
   ·exact absurd (c122.symm.trans hx_.out) (by decide)
   ·rw [if_neg c122] at H
    have c122b0 : ((Int.tmod aP 7) == 2) = false := beq_eq_false_iff_ne.mpr c122
    have c122b1 : ((Int.tmod aP 7) != 2) = true := bne_iff_ne.mpr c122
    by_cases c183 : (Int.tmod aP 7) = 3
    ·exact absurd (c183.symm.trans hx_.out) (by decide)
    ·rw [if_neg c183] at H
     have c183b0 : ((Int.tmod aP 7) == 3) = false := beq_eq_false_iff_ne.mpr c183
     have c183b1 : ((Int.tmod aP 7) != 3) = true := bne_iff_ne.mpr c183
     by_cases c226 : (Int.tmod aP 7) = 4
     ·rw [if_pos c226] at H
      have c226b0 : ((Int.tmod aP 7) == 4) = true := beq_iff_eq.mpr c226
      have c226b1 : ((Int.tmod aP 7) != 4) = false := bne_eq_false_iff_eq.mpr c226
      clear c226
      by_cases c227 : (aA.length : Int) > 0
      ·rw [if_pos c227] at H
       have cI : decide (0 < (aA.length : Int)) = true := decide_eq_true c227
       have cJ : decide (0 < aA.length) = true := decide_eq_true (by omega)
       clear c227
       by_cases c228 : (aA.length : Int) = 0
       ·rw [if_pos c228] at H
        exact absurd H (by simp)
       ·rw [if_neg c228] at H
        have c228b0 : ((aA.length : Int) == 0) = false := beq_eq_false_iff_ne.mpr c228
        have c228b1 : ((aA.length : Int) != 0) = true := bne_iff_ne.mpr c228
        have c228b2 : ¬ (aA = []) := fun h_ => c228 (by rw [h_]; rfl)
        obtain ⟨aD, bZ⟩ : ∃ j_ : Int, (Int.tmod (wrap64 (aJ)) (aA.length : Int)) = j_ := ⟨_, rfl⟩
        replace H : (if 0 ≤ (aD) then (if (aD) < (aA.length : Int) then ((commit_Answer.f k a0 a3 a4 a1 ((rd_T53 aA (aD)).f0) ((rd_T53 aA (aD)).f1) ((rd_T53 aA (aD)).f2) ((rd_T53 aA (aD)).f3) ((rd_T53 aA (aD)).f4) ((rd_T53 aA (aD)).f5) ((rd_T53 aA (aD)).f6) ((rd_T53 aA (aD)).f7)).bind fun bA => (if aA.length + bA.2.2.2.2.length < 1466015503701 then (some (aW, aX, aI, aY, aU, bA.1, bA.2.1, bA.2.2.1, bA.2.2.2.1, aN, (aA ++ bA.2.2.2.2), aK)) else (none))) else (none)) else (none)) = some (r1, r2, r3, r4, r5, r6, r7, r8, r9, r10, r11, r12) := by first | (rw [bZ] at H; exact H) | (simp only [bZ] at H ⊢; exact H)
        by_cases c230 : 0 ≤ (aD)
        ·rw [if_pos c230] at H
         have c230b0 : decide (0 ≤ (aD)) = true := decide_eq_true c230
         clear c230
         by_cases c231 : (aD) < (aA.length : Int)
         ·rw [if_pos c231] at H
          have c231b0 : decide ((aD) < (aA.length : Int)) = true := decide_eq_true c231
          clear c231
          replace H := Option.bind_eq_some_iff.mp H
          obtain ⟨⟨bD, bE, bF, bG, bY⟩, A2320, H⟩ := H
          (try dsimp only at H)
          have A232 := Aside0.mk A2320
          clear A2320
          by_cases c233 : aA.length + bY.length < 1466015503701
          ·rw [if_pos c233] at H
           have cK := Aside0.mk c233
           clear c233
           obtain ⟨bT, b0⟩ : ∃ y_ : List (S53), y_ = (aA ++ bY) := ⟨_, rfl⟩
           replace H : (some (aW, aX, aI, aY, aU, bD, bE, bF, bG, aN, bT, aK)) = some (r1, r2, r3, r4, r5, r6, r7, r8, r9, r10, r11, r12) := by first | (rw [b0]; with_reducible exact H) | (have H2_ := (Option.bind_some _ _).symm.trans H; rw [b0]; with_reducible exact H2_) | (have H2_ := (Option.bind_some _ _).symm.trans H; with_reducible exact H2_) | with_reducible exact H | (rw [b0]; exact H) | exact H
           have cN := Aside0.mk b0
           clear b0
           simp only [Option.some.injEq, Prod.mk.injEq] at H
           obtain ⟨rfl, rfl, rfl, rfl, rfl, rfl, rfl, rfl, rfl, rfl, rfl, rfl⟩ := H
           obtain ⟨bK, bL, cO⟩ := Kd.R_slice aM.out
           subst cO
           obtain ⟨cP, b1, cQ⟩ := Kd.R_slice aE.out
           subst cQ
           go_enter Try.func38, Try.ntmps38
           try go_wp2_with (first | ((with_reducible refine gate_dst (N := 2) rfl ?_); refine box_event ?hg (N := 2) ?hd (cs := #[.int .i64 aW, .int .i64 aX, .slice bB aI.length bC, .int .i64 aY, .int .i64 aU, .int .i64 a0, .int .i64 a3, .int .i64 a4, .int .i64 a1, .slice bK aN.length bL, .slice cP aA.length b1, .bool aK]) (t := 67) ?hr ?_; (case hd => rfl); (case hg => rfl); (case hr => first | (go_simp; done) | (go_simp; rfl)); intro aG hg w236 hbox hb; replace aM := tR aM hb; replace aE := tR aE hb; replace aT := Aside0.mk (Kd.V_below (Kd.V_elderB (mV aT.out) aG (Nat.le_of_eq hg.symm)) hb); have aC := Aside0.mk (hbox); have cR := gS HK hg; replace HK := tE HK hb; have cS := gZ HB hg; replace HB := tB HB hb; clear hb hbox hg) | ((with_reducible refine gate_dst (N := 3) rfl ?_); refine box_event ?hg (N := 3) ?hd (cs := #[.int .u8 aP, .int .u8 aJ]) (t := 71) ?hr ?_; (case hd => rfl); (case hg => rfl); (case hr => first | (go_simp; done) | (go_simp; rfl)); intro bH hg w237 hbox hb; replace aM := tR aM hb; replace aE := tR aE hb; replace aT := Aside0.mk (Kd.V_below (Kd.V_elderB (mV aT.out) bH (Nat.le_of_eq hg.symm)) hb); have aH := Aside0.mk (hbox); have cT := gS HK hg; replace HK := tE HK hb; have cU := gZ HB hg; replace HB := tB HB hb; have a8 := nL aC hg; have aZ := nG aC hg; replace aC := tK aC hb; clear hb hbox hg) | ((with_reducible refine gate_dst (N := 4) rfl ?_); refine box_event ?hg (N := 4) ?hd (cs := #[.int .i64 0, .int .i64 0, .slice none 0 0, .int .i64 0, .int .i64 0, .int .i64 0, .int .i64 0, .int .i64 0, .int .i64 0, .slice none 0 0, .slice none 0 0, .bool false]) (t := 67) ?hr ?_; (case hd => rfl); (case hg => rfl); (case hr => first | (go_simp; done) | (go_simp; rfl)); intro a7 hg w238 hbox hb; replace aM := tR aM hb; replace aE := tR aE hb; replace aT := Aside0.mk (Kd.V_below (Kd.V_elderB (mV aT.out) a7 (Nat.le_of_eq hg.symm)) hb); have aV := Aside0.mk (hbox); have cV := gS HK hg; replace HK := tE HK hb; have cW := gZ HB hg; replace HB := tB HB hb; have a9 := nL aC hg; have aQ := nG aC hg; replace aC := tK aC hb; have bU := nL aH hg; have bV := nG aH hg; replace aH := tK aH hb; clear hb hbox hg; have hnb239 := aZ.out; have hnc239 := a8.out; have hnb240 := bU.out; have hnc240 := bV.out; have dY : w238.cell? ⟨bH, 0, none⟩ = some (.int .u8 aP) := (blk_cell aH.out 0).trans rfl; have dZ : w238.cell? ⟨bH, 1, none⟩ = some (.int .u8 aJ) := (blk_cell aH.out 1).trans rfl; have d0 := blk_frozen aH.out 0; have d1 := blk_frozen aH.out 1; have hnb242 := a9.out; have hnc242 := aQ.out; obtain ⟨d2, d3, d4, d5, d6, d7, d8, d9, eA, eB, dA, dB⟩ := cz12 aC.out; obtain ⟨eC, eD, eE, eF, eG, eH, eI, eJ, eK, eL, dC, dD⟩ := fz12 aC.out))
           have n0_ := Aside0.mk (Kd.R_drew aM.out)
           have n1_ := Aside0.mk (Kd.R_drew aE.out)
           have n2_ := Aside0.mk (Kd.V_drew aT.out)
           have n3_ := Aside0.mk (blk_drew aC.out)
           have n4_ := Aside0.mk (blk_drew aH.out)
           have n5_ := Aside0.mk (blk_drew aV.out)
           have n6_ := Aside0.mk (Kept.drew HK.out)
           have n7_ := Aside0.mk (below_drew1 HB.out)
           clear aM
           clear aE
           clear aT
           clear aC
           clear aH
           clear aV
           clear HK
           clear HB
           have aM := n0_
           have aE := n1_
           have aT := n2_
           have aC := n3_
           have aH := n4_
           have aV := n5_
           have HK := n6_
           have HB := n7_
           clear n0_ n1_ n2_ n3_ n4_ n5_ n6_ n7_
           have p667 : 0 ≤ ((aD) : Int) := of_decide_eq_true (by first | (with_reducible assumption) | assumption)
           have q667 : (aD) < (aA.length : Int) := of_decide_eq_true (by first | (with_reducible assumption) | assumption)
           obtain ⟨a5, e667, b5, b6, b7, b8, b9, cA, cB, cC⟩ := at_T53 (Kd.R_reads' aE.out).2.2 (aD) p667 q667
           cases e667
           replace p667 := eq_true p667
           replace q667 := eq_true q667
           refine start_ (n := 20) (S := fun w' => w'.cell? ⟨aG, 0, none⟩ = some (.int .i64 aW) ∧ w'.cell? ⟨aG, 1, none⟩ = some (.int .i64 aX) ∧ w'.cell? ⟨aG, 2, none⟩ = some (.slice bB aI.length bC) ∧ w'.cell? ⟨aG, 3, none⟩ = some (.int .i64 aY) ∧ w'.cell? ⟨aG, 4, none⟩ = some (.int .i64 aU) ∧ w'.cell? ⟨aG, 5, none⟩ = some (.int .i64 a0) ∧ w'.cell? ⟨aG, 6, none⟩ = some (.int .i64 a3) ∧ w'.cell? ⟨aG, 7, none⟩ = some (.int .i64 a4) ∧ w'.cell? ⟨aG, 8, none⟩ = some (.int .i64 a1) ∧ w'.cell? ⟨aG, 9, none⟩ = some (.slice bK aN.length bL) ∧ w'.cell? ⟨aG, 10, none⟩ = some (.slice (some a5) aA.length b1) ∧ w'.cell? ⟨aG, 11, none⟩ = some (.bool aK) ∧ w'.cell? ⟨bH, 0, none⟩ = some (.int .u8 aP) ∧ w'.cell? ⟨bH, 1, none⟩ = some (.int .u8 aJ) ∧ w'.cell? (a5.add (((aD)).toNat * 8)) = some (.int .i64 ((rd_T53 aA (aD)).f0)) ∧ w'.cell? ⟨(a5.add (((aD)).toNat * 8)).block, (a5.add (((aD)).toNat * 8)).off + 1, none⟩ = some (.int .i64 ((rd_T53 aA (aD)).f1)) ∧ w'.cell? ⟨(a5.add (((aD)).toNat * 8)).block, (a5.add (((aD)).toNat * 8)).off + 2, none⟩ = some (.int .i64 ((rd_T53 aA (aD)).f2)) ∧ w'.cell? ⟨(a5.add (((aD)).toNat * 8)).block, (a5.add (((aD)).toNat * 8)).off + 3, none⟩ = some (.int .i64 ((rd_T53 aA (aD)).f3)) ∧ w'.cell? ⟨(a5.add (((aD)).toNat * 8)).block, (a5.add (((aD)).toNat * 8)).off + 4, none⟩ = some (.int .i64 ((rd_T53 aA (aD)).f4)) ∧ w'.cell? ⟨(a5.add (((aD)).toNat * 8)).block, (a5.add (((aD)).toNat * 8)).off + 5, none⟩ = some (.int .i64 ((rd_T53 aA (aD)).f5)) ∧ w'.cell? ⟨(a5.add (((aD)).toNat * 8)).block, (a5.add (((aD)).toNat * 8)).off + 6, none⟩ = some (.slice none 0 0) ∧ w'.cell? ⟨(a5.add (((aD)).toNat * 8)).block, (a5.add (((aD)).toNat * 8)).off + 7, none⟩ = some (.slice none 0 0)) (ds := [18]) #[false, false, false, false, false, false, false, false, false, false, false, false, false, false, false, false, false, false, false, false] (by kernel_rfl) rfl rfl (ct12 aC.out ⟨(blk_cell aH.out 0).trans rfl, (blk_cell aH.out 1).trans rfl, b5, b6, b7, b8, b9, cA, cB, cC⟩) (fun hHeld => ?_); refine with_tabW standbylaw32_step.tab39 standbylaw32_step.bits39 (fun HT_ HW_ => ?_)
           generalize w238.drew = w244 at aM aE aT aC aH aV HK HB b5 b6 b7 b8 b9 cA cB cC hHeld ⊢
           refine pure_ (i := 0) (N := some 224) (v := ?_) (a' := ?_) (bs 20 1) rfl rfl (any_of HT_.out (by kernel_rfl)) (fun _ _ _ h => h) (Or.inl ⟨by rfl, ?_⟩) ?_ ?_
           rotate_left
           ·intro w'
            go_simp
            with_reducible rfl
           rotate_left
           ·simp only [Act.put, sA, sB, sC, i64_w, i32_w]
            rfl
           refine pure_ (i := 2) (N := some 226) (v := ?_) (a' := ?_) (bs 20 5) rfl rfl (any_of HT_.out (by kernel_rfl)) (fun _ _ _ h => h) (Or.inl ⟨by rfl, ?_⟩) ?_ ?_
           rotate_left
           ·intro w'
            go_simp
            with_reducible rfl
           rotate_left
           ·simp only [Act.put, sA, sB, sC, i64_w, i32_w]
            rfl
           refine pure_ (i := 4) (N := some 228) (v := ?_) (a' := ?_) (bs 20 21) rfl rfl (any_of HT_.out (by kernel_rfl)) (fun _ _ _ h => h) (Or.inl ⟨by rfl, ?_⟩) ?_ ?_
           rotate_left
           ·intro w'
            go_simp
            with_reducible rfl
           rotate_left
           ·simp only [Act.put, sA, sB, sC, i64_w, i32_w]
            rfl
           refine pure_ (i := 7) (N := some 231) (v := ?_) (a' := ?_) (bs 20 149) rfl rfl (any_of HT_.out (by kernel_rfl)) (fun _ _ _ h => h) (Or.inl ⟨by rfl, ?_⟩) ?_ ?_
           rotate_left
           ·intro w'
            go_simp
            with_reducible rfl
           rotate_left
           ·simp only [Act.put, sA, sB, sC, i64_w, i32_w]
            rfl
           refine take_ (i := 1) (N := some 225) (v := ?_) (a' := ?_) (bs 20 151) rfl rfl (take_ofW HT_.out HW_.out (by kernel_rfl)) (fun _ _ _ h => h) (Or.inl ⟨by rfl, ?_⟩) hHeld ?_ ?_
           rotate_left
           ·rintro w' ⟨s0, s1, s2, s3, s4, s5, s6, s7, s8, s9, s10, s11, s12, s13, s14, s15, s16, s17, s18, s19, s20, s21⟩
            go_simp
            with_reducible rfl
           rotate_left
           ·simp only [Act.put, sA, sB, sC, i64_w, i32_w]
            rfl
           refine take_ (i := 3) (N := some 227) (v := ?_) (a' := ?_) (bs 20 159) rfl rfl (take_ofW HT_.out HW_.out (by kernel_rfl)) (fun _ _ _ h => h) (Or.inl ⟨by rfl, ?_⟩) hHeld ?_ ?_
           rotate_left
           ·rintro w' ⟨s0, s1, s2, s3, s4, s5, s6, s7, s8, s9, s10, s11, s12, s13, s14, s15, s16, s17, s18, s19, s20, s21⟩
            go_simp
            with_reducible rfl
           rotate_left
           ·simp only [Act.put, sA, sB, sC, i64_w, i32_w]
            rfl
           refine take_ (i := 5) (N := some 229) (v := ?_) (a' := ?_) (bs 20 191) rfl rfl (take_ofW HT_.out HW_.out (by kernel_rfl)) (fun _ _ _ h => h) (Or.inl ⟨by rfl, ?_⟩) hHeld ?_ ?_
           rotate_left
           ·rintro w' ⟨s0, s1, s2, s3, s4, s5, s6, s7, s8, s9, s10, s11, s12, s13, s14, s15, s16, s17, s18, s19, s20, s21⟩
            go_simp
            with_reducible rfl
           rotate_left
           ·simp only [Act.put, sA, sB, sC, i64_w, i32_w]
            rfl
           refine pure_ (i := 6) (N := some 230) (v := ?_) (a' := ?_) (bs 20 255) rfl rfl (any_of HT_.out (by kernel_rfl)) (fun _ _ _ h => h) (Or.inl ⟨by rfl, ?_⟩) ?_ ?_
           rotate_left
           ·intro w'
            go_simp
            with_reducible rfl
           rotate_left
           ·simp only [Act.put, sA, sB, sC, i64_w, i32_w]
            rfl
           refine take_ (i := 8) (N := some 232) (v := ?_) (a' := ?_) (bs 20 511) rfl rfl (take_ofW HT_.out HW_.out (by kernel_rfl)) (fun _ _ _ h => h) (Or.inl ⟨by rfl, ?_⟩) hHeld ?_ ?_
           rotate_left
           ·rintro w' ⟨s0, s1, s2, s3, s4, s5, s6, s7, s8, s9, s10, s11, s12, s13, s14, s15, s16, s17, s18, s19, s20, s21⟩
            go_simp
            with_reducible rfl
           rotate_left
           ·simp only [Act.put, sA, sB, sC, i64_w, i32_w]
            rfl
           refine pure_ (i := 9) (N := some 233) (v := ?_) (a' := ?_) (bs 20 1023) rfl rfl (any_of HT_.out (by kernel_rfl)) (fun _ _ _ h => h) (Or.inl ⟨by rfl, ?_⟩) ?_ ?_
           rotate_left
           ·intro w'
            go_simp
            with_reducible rfl
           rotate_left
           ·simp only [Act.put, sA, sB, sC, i64_w, i32_w]
            rfl
           refine pure_ (i := 10) (N := some 234) (v := ?_) (a' := ?_) (bs 20 2047) rfl rfl (any_of HT_.out (by kernel_rfl)) (fun _ _ _ h => h) (Or.inl ⟨by rfl, ?_⟩) ?_ ?_
           rotate_left
           ·intro w'
            go_simp
            with_reducible rfl
           rotate_left
           ·simp only [Act.put, sA, sB, sC, i64_w, i32_w]
            rfl
           refine pure_ (i := 11) (N := some 235) (v := ?_) (a' := ?_) (bs 20 4095) rfl rfl (any_of HT_.out (by kernel_rfl)) (fun _ _ _ h => h) (Or.inl ⟨by rfl, ?_⟩) ?_ ?_
           rotate_left
           ·intro w'
            go_simp
            with_reducible rfl
           rotate_left
           ·simp only [Act.put, sA, sB, sC, i64_w, i32_w]
            rfl
           refine take_ (i := 12) (N := some 236) (v := ?_) (a' := ?_) (bs 20 8191) rfl rfl (take_ofW HT_.out HW_.out (by kernel_rfl)) (fun _ _ _ h => h) (Or.inl ⟨by rfl, ?_⟩) hHeld ?_ ?_
           rotate_left
           ·rintro w' ⟨s0, s1, s2, s3, s4, s5, s6, s7, s8, s9, s10, s11, s12, s13, s14, s15, s16, s17, s18, s19, s20, s21⟩
            go_simp
            with_reducible rfl
           rotate_left
           ·simp only [Act.put, sA, sB, sC, i64_w, i32_w]
            rfl
           refine one_ (i := 13) (N := some 237) (bs 20 16383) rfl rfl (one_of HT_.out (by kernel_rfl)) (by decide) (fun K hK => ?_)
           refine goes_ Try.func35 (by kernel_rfl) rfl #[.agg #[.int .i64 a0, .int .i64 a3, .int .i64 a4, .int .i64 a1], .agg #[.int .i64 ((rd_T53 aA (aD)).f0), .int .i64 ((rd_T53 aA (aD)).f1), .int .i64 ((rd_T53 aA (aD)).f2), .int .i64 ((rd_T53 aA (aD)).f3), .int .i64 ((rd_T53 aA (aD)).f4), .int .i64 ((rd_T53 aA (aD)).f5), .slice none 0 0, .slice none 0 0]] (by rfl) rfl rfl (by (try simp only [List.map_toArray, List.map_cons, List.map_nil]); first | done | (simp only [bZ]; rfl) | rfl | (simp only [List.length_drop, List.length_take]; rfl)) ?_
           with_reducible refine (commit_Answer.calls k a0 a3 a4 a1 ((rd_T53 aA (aD)).f0) ((rd_T53 aA (aD)).f1) ((rd_T53 aA (aD)).f2) ((rd_T53 aA (aD)).f3) ((rd_T53 aA (aD)).f4) ((rd_T53 aA (aD)).f5) ((rd_T53 aA (aD)).f6) (.slice none 0 0) ((rd_T53 aA (aD)).f7) (.slice none 0 0) bD bE bF bG bY _ A232.out).mono ?_
           rintro e w245 ⟨v673, rfl, ho0, hb⟩
           have cX := (hb.cell (World.block_lt_of_cell? _ _ (hHeld.2.2.2.2.2.2.2.2.2.2.2.2.2.2.1))).trans (hHeld.2.2.2.2.2.2.2.2.2.2.2.2.2.2.1)
           have cY := (hb.cell (World.block_lt_of_cell? _ _ (hHeld.2.2.2.2.2.2.2.2.2.2.2.2.2.2.2.1))).trans (hHeld.2.2.2.2.2.2.2.2.2.2.2.2.2.2.2.1)
           have cZ := (hb.cell (World.block_lt_of_cell? _ _ (hHeld.2.2.2.2.2.2.2.2.2.2.2.2.2.2.2.2.1))).trans (hHeld.2.2.2.2.2.2.2.2.2.2.2.2.2.2.2.2.1)
           have c0 := (hb.cell (World.block_lt_of_cell? _ _ (hHeld.2.2.2.2.2.2.2.2.2.2.2.2.2.2.2.2.2.1))).trans (hHeld.2.2.2.2.2.2.2.2.2.2.2.2.2.2.2.2.2.1)
           have c1 := (hb.cell (World.block_lt_of_cell? _ _ (hHeld.2.2.2.2.2.2.2.2.2.2.2.2.2.2.2.2.2.2.1))).trans (hHeld.2.2.2.2.2.2.2.2.2.2.2.2.2.2.2.2.2.2.1)
           have c2 := (hb.cell (World.block_lt_of_cell? _ _ (hHeld.2.2.2.2.2.2.2.2.2.2.2.2.2.2.2.2.2.2.2.1))).trans (hHeld.2.2.2.2.2.2.2.2.2.2.2.2.2.2.2.2.2.2.2.1)
           have c4 := (hb.cell (World.block_lt_of_cell? _ _ (hHeld.2.2.2.2.2.2.2.2.2.2.2.2.2.2.2.2.2.2.2.2.1))).trans (hHeld.2.2.2.2.2.2.2.2.2.2.2.2.2.2.2.2.2.2.2.2.1)
           have c5 := (hb.cell (World.block_lt_of_cell? _ _ (hHeld.2.2.2.2.2.2.2.2.2.2.2.2.2.2.2.2.2.2.2.2.2))).trans (hHeld.2.2.2.2.2.2.2.2.2.2.2.2.2.2.2.2.2.2.2.2.2)
           refine ⟨_, rfl, ?_⟩
           have n0_ := tR aM hb
           have n1_ := Aside0.mk (Kd.R_elder' (mR aE.out) (Kd.R_base ho0) hb)
           have n2_ := Aside0.mk (Kd.V_elder' (mV aT.out) (Kd.R_base ho0) hb)
           have n3_ := Aside0.mk (Kd.R_lower (Kd.R_new' (Kd.R_newM (M := fun k_ => ((a6 k_ ∨ a2 k_) ∨ w.heap.size ≤ k_)) ho0 (kS HK.out) (fun k_ h_ => .inr h_)) (Kd.R_lt (mR aE.out))) (kZ HB.out))
           have n4_ := tK aC hb
           have n5_ := tK aH hb
           have n6_ := tK aV hb
           have n7_ := tE HK hb
           have n8_ := tB HB hb
           clear aM
           clear aE
           clear aT
           clear aC
           clear aH
           clear aV
           clear HK
           clear HB
           have aM := n0_
           have aE := n1_
           have aT := n2_
           have bX := n3_
           have aC := n4_
           have aH := n5_
           have aV := n6_
           have HK := n7_
           have HB := n8_
           clear n0_ n1_ n2_ n3_ n4_ n5_ n6_ n7_ n8_
           (try clear hb)
           (try clear hb2)
           (try clear hk)
           (try clear hi)
           (try clear ho0)
           refine hK.out _ _ (ct12 aC.out ⟨(blk_cell aH.out 0).trans rfl, (blk_cell aH.out 1).trans rfl, cX, cY, cZ, c0, c1, c2, c4, c5⟩) (fun hHeld => ?_)
           clear hK K
           refine norm_ (a' := ?_) ?_ ?_
           rotate_left
           ·show Act.put _ (some 237) _ = _
            simp only [Act.put, sA, sB, sC, i64_w, i32_w]
            rfl
           refine pure_ (i := 14) (N := some 223) (v := ?_) (a' := ?_) (bs 20 32767) rfl rfl (any_of HT_.out (by kernel_rfl)) (fun _ _ _ h => h) (Or.inl ⟨by rfl, ?_⟩) ?_ ?_
           rotate_left
           ·intro w'
            go_simp
            with_reducible rfl
           rotate_left
           ·simp only [Act.put, sA, sB, sC, i64_w, i32_w]
            rfl
           refine pure_ (i := 15) (N := some 238) (v := ?_) (a' := ?_) (bs 20 65535) rfl rfl (any_of HT_.out (by kernel_rfl)) (fun _ _ _ h => h) (Or.inl ⟨by rfl, ?_⟩) ?_ ?_
           rotate_left
           ·intro w'
            go_simp
            with_reducible rfl
           rotate_left
           ·simp only [Act.put, sA, sB, sC, i64_w, i32_w]
            rfl
           refine pure_ (i := 16) (N := some 239) (v := ?_) (a' := ?_) (bs 20 131071) rfl rfl (any_of HT_.out (by kernel_rfl)) (fun _ _ _ h => h) (Or.inl ⟨by rfl, ?_⟩) ?_ ?_
           rotate_left
           ·intro w'
            go_simp
            with_reducible rfl
           rotate_left
           ·simp only [Act.put, sA, sB, sC, i64_w, i32_w]
            rfl
           refine pure_ (i := 17) (N := some 240) (v := ?_) (a' := ?_) (bs 20 262143) rfl rfl (any_of HT_.out (by kernel_rfl)) (fun _ _ _ h => h) (Or.inl ⟨by rfl, ?_⟩) ?_ ?_
           rotate_left
           ·intro w'
            go_simp
            with_reducible rfl
           rotate_left
           ·simp only [Act.put, sA, sB, sC, i64_w, i32_w]
            rfl
           refine last_ (i := 18) (N := none) (bs 20 524287) rfl rfl (one_of HT_.out (by kernel_rfl)) (by decide) (fun K hK => ?_)
           have hs246 : w245.cell? ⟨aG, 5, none⟩ = some (.int .i64 a0) := (blk_cell aC.out 5).trans rfl
           have hfs246 := blk_frozen aC.out 5
           have hns246_1 := aZ.out
           have hns246_2 := aQ.out
           have hms246_1 := a8.out
           have hms246_2 := a9.out
           have hs247 : w245.cell? ⟨aG, 6, none⟩ = some (.int .i64 a3) := (blk_cell aC.out 6).trans rfl
           have hfs247 := blk_frozen aC.out 6
           have hns247_1 := aZ.out
           have hns247_2 := aQ.out
           have hms247_1 := a8.out
           have hms247_2 := a9.out
           have hs248 : w245.cell? ⟨aG, 7, none⟩ = some (.int .i64 a4) := (blk_cell aC.out 7).trans rfl
           have hfs248 := blk_frozen aC.out 7
           have hns248_1 := aZ.out
           have hns248_2 := aQ.out
           have hms248_1 := a8.out
           have hms248_2 := a9.out
           have hs249 : w245.cell? ⟨aG, 8, none⟩ = some (.int .i64 a1) := (blk_cell aC.out 8).trans rfl
           have hfs249 := blk_frozen aC.out 8
           have hns249_1 := aZ.out
           have hns249_2 := aQ.out
           have hms249_1 := a8.out
           have hms249_2 := a9.out
           refine skip_ (w1 := ?_) (by rfl) rfl ?_ ?_
           rotate_left
           ·go_simp
            rfl
           refine hK.out _ _ ?_
           clear hK K
           refine pure_ (i := 19) (N := some 5) (v := ?_) (a' := ?_) (bs 20 1048575) rfl rfl (any_of HT_.out (by kernel_rfl)) (fun _ _ _ h => h) (Or.inl ⟨by rfl, ?_⟩) ?_ ?_
           rotate_left
           ·intro w'
            go_simp
            with_reducible rfl
           rotate_left
           ·simp only [Act.put, sA, sB, sC, i64_w, i32_w]
            rfl
           refine done_ (done_of HT_.out (by kernel_rfl)) ?_
           obtain ⟨eM, eN, eO, eP, eQ, eR, eS, eT, eU, eV, dE, dF⟩ := cz12 aC.out
           obtain ⟨eW, eX, eY, eZ, e0, e1, e2, e3, e4, e5, dG, dH⟩ := fz12 aC.out
           obtain ⟨cE, cD, c6⟩ := Kd.R_slice bX.out
           subst c6
           try go_wp2_with (first | ((with_reducible refine gate_builtin (b := .append) (xs := #[.tmp 247, .tmp 248]) rfl ?_); at_builtin; refine Kd.R_append_rows k53 (w0 := w0) w0.heap.size rfl (.tmp 247) (.tmp 248) 43 53 (.agg #[(.int .i64 0), (.int .i64 0), (.int .i64 0), (.int .i64 0), (.int .i64 0), (.int .i64 0), (.slice none 0 0), (.slice none 0 0)]) 96 rfl Try.underlying43 info53 rfl (by decide) (by omega) (.slice (some a5) aA.length b1) aA bY _ _ _ (fun k_ => ((a6 k_ ∨ a2 k_) ∨ w.heap.size ≤ k_) ∧ some k_ ≠ (.slice cE bY.length cD : Value).ownBlock) (fun _ => False) rfl rfl ?aO ?aR (fun _ _ h => h) (fun _ h => h.elim) ?aF ?aB ?aS ?aL ?_; (case aR => refine (Kd.R_reads' (e := 53) (base := w0.heap.size) (ok := fun k_ => ((((a6 k_ ∨ a2 k_) ∨ w.heap.size ≤ k_) ∧ True) ∧ some k_ ≠ (.slice (some a5) aA.length b1 : Value).ownBlock)) (n := bY.length) (c := cD) ?_).2.2; exact (mR (Kd.R_mono (rf4 aG 5 (Kd.R_types bX.out aC.out (by decide)) (fun _ hk => hk.2) (.int .i64 bD) (.int .i64 bE) (.int .i64 bF) (.int .i64 bG)) (fun _ h_ => h_.1)))); (case aB => exact (kB HB.out)); (case aF => exact (fun k_ hk => ⟨(.inr (Nat.le_trans (show Kept w _ (fun k_ => a6 k_ ∨ a2 k_) from (kK HK.out)).1 hk)), Kd.fresh' (Kd.R_lt (mR (Kd.R_mono (rf4 aG 5 (Kd.R_types bX.out aC.out (by decide)) (fun _ hk => hk.2) (.int .i64 bD) (.int .i64 bE) (.int .i64 bF) (.int .i64 bG)) (fun _ h_ => h_.1)))) k_ hk⟩)); (case aO => exact (mR (Kd.R_mono (rf4 aG 5 (Kd.R_types aE.out aC.out (by decide)) (fun _ hk => hk.2) (.int .i64 bD) (.int .i64 bE) (.int .i64 bF) (.int .i64 bG)) (fun _ hk => ⟨hk.1.1, hk.1.2⟩)))); (case aS => exact (kZ HB.out)); (case aL => have := cK.out; omega); intro v676 w251 ho hb hg hat; rw [← cN.out] at ho; have n0_ := Aside0.mk (Kd.R_over' (mR (Kd.R_mono (rf4 aG 5 (Kd.R_types aM.out aC.out (by decide)) (fun _ hk => hk.2) (.int .i64 bD) (.int .i64 bE) (.int .i64 bF) (.int .i64 bG)) (fun _ h_ => h_.1))) (Kd.R_typed (mR (Kd.R_mono (rf4 aG 5 (Kd.R_types aE.out aC.out (by decide)) (fun _ hk => hk.2) (.int .i64 bD) (.int .i64 bE) (.int .i64 bF) (.int .i64 bG)) (fun _ h_ => h_.1)))) (by decide) hg); have n1_ := Aside0.mk (Kd.V_afterv (ok := (fun k_ => ((a6 k_ ∨ a2 k_ ∨ b4 k_) ∨ w.heap.size ≤ k_) ∧ some k_ ≠ (.slice bK aN.length bL : Value).ownBlock ∧ some k_ ≠ (.slice cE bY.length cD : Value).ownBlock ∧ k_ ≠ aG ∧ k_ ≠ bH ∧ k_ ≠ a7)) (mV (Kd.V_mono (vf4 aG 5 (Kd.V_mono aT.out (fun k_ hk => (⟨hk, hk.1.1.1.2⟩ : _ ∧ k_ ≠ aG))) (fun _ hk => hk.2) (.int .i64 bD) (.int .i64 bE) (.int .i64 bF) (.int .i64 bG)) (fun _ hk => ⟨⟨hk.1.1.1.1.1.1, ⟨hk.1.1.1.1.1.2.1, ⟨hk.1.2, ⟨hk.1.1.1.1.2, ⟨hk.1.1.1.2, hk.1.1.2⟩⟩⟩⟩⟩, hk.1.1.1.1.1.2.2⟩))) hg hat); have n2_ := Aside0.mk (blk_grown (g := aG) (o := .cells #[.int .i64 aW, .int .i64 aX, .slice bB aI.length bC, .int .i64 aY, .int .i64 aU, .int .i64 bD, .int .i64 bE, .int .i64 bF, .int .i64 bG, .slice bK aN.length bL, .slice (some a5) aA.length b1, .bool aK] 67 (0, 0)) (by exact (mK (pt12_5_4 aC.out))) hg (Kd.R_ne aE.out aC.out (by decide))); have n3_ := Aside0.mk (blk_grown (g := bH) (o := .cells #[.int .u8 aP, .int .u8 aJ] 71 (0, 0)) (by exact (mK (fr (fr (fr (fr aH.out aZ.out) aZ.out) aZ.out) aZ.out))) hg (Kd.R_ne aE.out aH.out (by decide))); have n4_ := Aside0.mk (blk_grown (g := a7) (o := .cells #[.int .i64 0, .int .i64 0, .slice none 0 0, .int .i64 0, .int .i64 0, .int .i64 0, .int .i64 0, .int .i64 0, .int .i64 0, .slice none 0 0, .slice none 0 0, .bool false] 67 (0, 0)) (by exact (mK (fr (fr (fr (fr aV.out aQ.out) aQ.out) aQ.out) aQ.out))) hg (Kd.R_ne aE.out aV.out (by decide))); have n5_ := Aside0.mk (Kd.R_after (ok := (fun k_ => ((a6 k_ ∨ a2 k_) ∨ w.heap.size ≤ k_))) (mR (Kd.R_mono (rf4 aG 5 (Kd.R_types bX.out aC.out (by decide)) (fun _ hk => hk.2) (.int .i64 bD) (.int .i64 bE) (.int .i64 bF) (.int .i64 bG)) (fun _ hk => ⟨hk.1.1.1, hk.1.2⟩))) hg hat); have n6_ := Aside0.mk (hb); have n7_ := Aside0.mk (Kept.of_grown (S := (fun k_ => a6 k_ ∨ a2 k_)) hg (kK HK.out) (fun k_ e_ => (aE.out.1 k_ e_).1)); have n8_ := Aside0.mk (ho); clear aM; clear aT; clear aC; clear aH; clear aV; clear bX; clear HB; clear HK; clear aE; have aM := n0_; have aT := n1_; have aC := n2_; have aH := n3_; have aV := n4_; have bX := n5_; have HB := n6_; have HK := n7_; have cF := n8_; clear n0_ n1_ n2_ n3_ n4_ n5_ n6_ n7_ n8_; clear ho hb hg hat; obtain ⟨bP, bQ, c7⟩ := Kd.R_slice cF.out; subst c7; obtain ⟨e6, e7, e8, e9, fA, fB, fC, fD, fE, fF, dI, dJ⟩ := cz12 aC.out; obtain ⟨fG, fH, fI, fJ, fK, fL, fM, fN, fO, fP, dK, dL⟩ := fz12 aC.out; obtain ⟨fQ, fR, fS, fT, fU, fV, fW, fX, fY, fZ, dM, dN⟩ := cz12 aV.out; obtain ⟨f8, f9, gA, gB, gC, gD, gE, gF, gG, gH, dO, dP⟩ := fz12 aV.out))
           refine bodyPost_ret (results_cell_row rfl _ _ a7 67 #[.int .i64 aW, .int .i64 aX, .slice bB aI.length bC, .int .i64 aY, .int .i64 aU, .int .i64 bD, .int .i64 bE, .int .i64 bF, .int .i64 bG, .slice bK aN.length bL, .slice bP bT.length bQ, .bool aK] (0, 0) _ rfl (by exact (mK (pt12_0_12 (fr aV.out aQ.out)))) Try.underlying67 rfl (by kernel_rfl)) rfl ?_
           exact ⟨_, _, _, by first | rfl | (simp [errW_none, errW_some] <;> rfl) | (simp only [← bZ]; first | rfl | (simp [errW_none, errW_some] <;> rfl)) | (simp [*, errW_none, errW_some] <;> rfl), by refine mV ?_; exact Kd.V_mono (vf12 a7 0 (Kd.V_far (p := ⟨aG, 10, none⟩) (Kd.V_mono (Kd.V_mono aT.out (fun k_ hk => (⟨hk, hk.1.2.2.2.1⟩ : _ ∧ k_ ≠ aG))) (fun k_ hk => (⟨hk, hk.1.1.2.2.2.2.2⟩ : _ ∧ k_ ≠ a7))) (fun _ hk => hk.1.2) (.slice bP bT.length bQ)) (fun _ hk => hk.2) (.int .i64 aW) (.int .i64 aX) (.slice bB aI.length bC) (.int .i64 aY) (.int .i64 aU) (.int .i64 bD) (.int .i64 bE) (.int .i64 bF) (.int .i64 bG) (.slice bK aN.length bL) (.slice bP bT.length bQ) (.bool aK)) (fun _ hk => ⟨hk.1.1.1.1, ⟨hk.1.1.1.2.1, hk.1.1.2⟩⟩), by refine mR ?_; exact Kd.R_mono (rf12 a7 0 (Kd.R_far (p := ⟨aG, 10, none⟩) (Kd.R_types (Kd.R_types aM.out aC.out (by decide)) aV.out (by decide)) (fun _ hk => hk.1.2) (.slice bP bT.length bQ)) (fun _ hk => hk.2) (.int .i64 aW) (.int .i64 aX) (.slice bB aI.length bC) (.int .i64 aY) (.int .i64 aU) (.int .i64 bD) (.int .i64 bE) (.int .i64 bF) (.int .i64 bG) (.slice bK aN.length bL) (.slice bP bT.length bQ) (.bool aK)) (fun _ hk => hk.1.1), by refine mR ?_; exact Kd.R_mono (rf12 a7 0 (Kd.R_far (p := ⟨aG, 10, none⟩) (Kd.R_types (Kd.R_types cF.out aC.out (by decide)) aV.out (by decide)) (fun _ hk => hk.1.2) (.slice bP bT.length bQ)) (fun _ hk => hk.2) (.int .i64 aW) (.int .i64 aX) (.slice bB aI.length bC) (.int .i64 aY) (.int .i64 aU) (.int .i64 bD) (.int .i64 bE) (.int .i64 bF) (.int .i64 bG) (.slice bK aN.length bL) (.slice bP bT.length bQ) (.bool aK)) (fun _ hk => hk.1.1.1), (kB HB.out), (kK HK.out)⟩
          ·rw [if_neg c233] at H
           exact absurd H (by simp)
         ·rw [if_neg c231] at H
          exact absurd H (by simp)
        ·rw [if_neg c230] at H
         exact absurd H (by simp)
      ·rw [if_neg c227] at H
       have cI : decide (0 < (aA.length : Int)) = false := decide_eq_false c227
       have cJ : decide (0 < aA.length) = false := decide_eq_false (by omega)
       clear c227
       simp only [Option.some.injEq, Prod.mk.injEq] at H
       obtain ⟨rfl, rfl, rfl, rfl, rfl, rfl, rfl, rfl, rfl, rfl, rfl, rfl⟩ := H
       obtain ⟨b2, b3, c8⟩ := Kd.R_slice aM.out
       subst c8
       obtain ⟨bM, bN, c9⟩ := Kd.R_slice aE.out
       subst c9
       have hcapx := (Kd.R_reads' aE.out).2.1
       go_enter Try.func38, Try.ntmps38
       go_wp2_with (first | ((with_reducible refine gate_dst (N := 2) rfl ?_); refine box_event ?hg (N := 2) ?hd (cs := #[.int .i64 aW, .int .i64 aX, .slice bB aI.length bC, .int .i64 aY, .int .i64 aU, .int .i64 a0, .int .i64 a3, .int .i64 a4, .int .i64 a1, .slice b2 aN.length b3, .slice bM aA.length bN, .bool aK]) (t := 67) ?hr ?_; (case hd => rfl); (case hg => rfl); (case hr => first | (go_simp; done) | (go_simp; rfl)); intro aG hg w258 hbox hb; replace aM := tR aM hb; replace aE := tR aE hb; replace aT := Aside0.mk (Kd.V_below (Kd.V_elderB (mV aT.out) aG (Nat.le_of_eq hg.symm)) hb); have aC := Aside0.mk (hbox); have cR := gS HK hg; replace HK := tE HK hb; have cS := gZ HB hg; replace HB := tB HB hb; clear hb hbox hg) | ((with_reducible refine gate_dst (N := 3) rfl ?_); refine box_event ?hg (N := 3) ?hd (cs := #[.int .u8 aP, .int .u8 aJ]) (t := 71) ?hr ?_; (case hd => rfl); (case hg => rfl); (case hr => first | (go_simp; done) | (go_simp; rfl)); intro bH hg w259 hbox hb; replace aM := tR aM hb; replace aE := tR aE hb; replace aT := Aside0.mk (Kd.V_below (Kd.V_elderB (mV aT.out) bH (Nat.le_of_eq hg.symm)) hb); have aH := Aside0.mk (hbox); have cT := gS HK hg; replace HK := tE HK hb; have cU := gZ HB hg; replace HB := tB HB hb; have a8 := nL aC hg; have aZ := nG aC hg; replace aC := tK aC hb; clear hb hbox hg) | ((with_reducible refine gate_dst (N := 4) rfl ?_); refine box_event ?hg (N := 4) ?hd (cs := #[.int .i64 0, .int .i64 0, .slice none 0 0, .int .i64 0, .int .i64 0, .int .i64 0, .int .i64 0, .int .i64 0, .int .i64 0, .slice none 0 0, .slice none 0 0, .bool false]) (t := 67) ?hr ?_; (case hd => rfl); (case hg => rfl); (case hr => first | (go_simp; done) | (go_simp; rfl)); intro a7 hg w260 hbox hb; replace aM := tR aM hb; replace aE := tR aE hb; replace aT := Aside0.mk (Kd.V_below (Kd.V_elderB (mV aT.out) a7 (Nat.le_of_eq hg.symm)) hb); have aV := Aside0.mk (hbox); have cV := gS HK hg; replace HK := tE HK hb; have cW := gZ HB hg; replace HB := tB HB hb; have a9 := nL aC hg; have aQ := nG aC hg; replace aC := tK aC hb; have bU := nL aH hg; have bV := nG aH hg; replace aH := tK aH hb; clear hb hbox hg; have hnb261 := aZ.out; have hnc261 := a8.out; have hnb262 := bU.out; have hnc262 := bV.out; have gI : w260.cell? ⟨bH, 0, none⟩ = some (.int .u8 aP) := (blk_cell aH.out 0).trans rfl; have gJ : w260.cell? ⟨bH, 1, none⟩ = some (.int .u8 aJ) := (blk_cell aH.out 1).trans rfl; have gK := blk_frozen aH.out 0; have gL := blk_frozen aH.out 1; have hnb264 := a9.out; have hnc264 := aQ.out; obtain ⟨gM, gN, gO, gP, gQ, gR, gT, gU, gV, gW, dQ, dR⟩ := cz12 aC.out; obtain ⟨gX, gY, g0, g1, g2, g3, g4, g5, g6, g7, dS, dT⟩ := fz12 aC.out; obtain ⟨g8, g9, hA, hC, hD, hE, hF, hG, hH, hI, dU, dV⟩ := cz12 aV.out; obtain ⟨hJ, hL, hM, hN, hO, hP, hQ, hR, hS, hT, dW, dX⟩ := fz12 aV.out) | ((with_reducible refine gate_builtin (b := .append) (xs := #[.tmp 247, .tmp 248]) rfl ?_); at_builtin; refine append_nil_ rfl (.tmp 247) (.tmp 248) 43 53 (.agg #[(.int .i64 0), (.int .i64 0), (.int .i64 0), (.int .i64 0), (.int .i64 0), (.int .i64 0), (.slice none 0 0), (.slice none 0 0)]) 8 96 rfl Try.underlying43 info53 _ _ _ rfl rfl hcapx ?_))
       refine bodyPost_ret (results_cell_row rfl _ _ a7 67 #[.int .i64 aW, .int .i64 aX, .slice bB aI.length bC, .int .i64 aY, .int .i64 aU, .int .i64 a0, .int .i64 a3, .int .i64 a4, .int .i64 a1, .slice b2 aN.length b3, .slice bM aA.length bN, .bool aK] (0, 0) _ rfl (by exact (mK (pt12_0_12 (fr aV.out aQ.out)))) Try.underlying67 rfl (by kernel_rfl)) rfl ?_
       exact ⟨_, _, _, by first | rfl | (simp [errW_none, errW_some] <;> rfl) | (simp [*, errW_none, errW_some] <;> rfl), by refine mV ?_; exact Kd.V_mono (vf12 a7 0 (Kd.V_far (p := ⟨aG, 10, none⟩) (Kd.V_mono (Kd.V_mono aT.out (fun k_ hk => (⟨hk, hk.1.1.2⟩ : _ ∧ k_ ≠ aG))) (fun k_ hk => (⟨hk, hk.1.2⟩ : _ ∧ k_ ≠ a7))) (fun _ hk => hk.1.2) (.slice bM aA.length bN)) (fun _ hk => hk.2) (.int .i64 aW) (.int .i64 aX) (.slice bB aI.length bC) (.int .i64 aY) (.int .i64 aU) (.int .i64 a0) (.int .i64 a3) (.int .i64 a4) (.int .i64 a1) (.slice b2 aN.length b3) (.slice bM aA.length bN) (.bool aK)) (fun _ hk => ⟨hk.1.1.1.1.1.1, ⟨hk.1.1.1.1.1.2.1, hk.1.1.1.1.1.2.2⟩⟩), by refine mR ?_; exact Kd.R_mono (rf12 a7 0 (Kd.R_far (p := ⟨aG, 10, none⟩) (Kd.R_types (Kd.R_types aM.out aC.out (by decide)) aV.out (by decide)) (fun _ hk => hk.1.2) (.slice bM aA.length bN)) (fun _ hk => hk.2) (.int .i64 aW) (.int .i64 aX) (.slice bB aI.length bC) (.int .i64 aY) (.int .i64 aU) (.int .i64 a0) (.int .i64 a3) (.int .i64 a4) (.int .i64 a1) (.slice b2 aN.length b3) (.slice bM aA.length bN) (.bool aK)) (fun _ hk => hk.1.1), by refine mR ?_; exact Kd.R_mono (rf12 a7 0 (Kd.R_far (p := ⟨aG, 10, none⟩) (Kd.R_types (Kd.R_types aE.out aC.out (by decide)) aV.out (by decide)) (fun _ hk => hk.1.2) (.slice bM aA.length bN)) (fun _ hk => hk.2) (.int .i64 aW) (.int .i64 aX) (.slice bB aI.length bC) (.int .i64 aY) (.int .i64 aU) (.int .i64 a0) (.int .i64 a3) (.int .i64 a4) (.int .i64 a1) (.slice b2 aN.length b3) (.slice bM aA.length bN) (.bool aK)) (fun _ hk => hk.1.1), (kB HB.out), (kK HK.out)⟩
     ·exact absurd hx_.out c226
end Go.Proofs.Ytedoloapddmanaa.PB
