-- Written by a program of this session (wip/tools) over the kit's print.
import Derived.Test.YtedoloapddmanaaPBx0
import Derived.Test.YtedoloapddmanaaSh
import Derived.Test.YtedoloapddmanaaSh2
import Derived.Test.YtedoloapddmanaaSh5
import Derived.Test.YtedoloapddmanaaPBx3
import Derived.Test.YtedoloapddmanaaPBx11
import Derived.Test.YtedoloapddmanaaPBx12
import Derived.Test.YtedoloapddmanaaPBx28
import Derived.Test.YtedoloapddmanaaPBx29
namespace Go.Proofs.Ytedoloapddmanaa.PB
open Go.RowKit Go.Proofs.YtedoloapddmanaaW.PrintWords Go.Proofs.YtedoloapddmanaaW.PrintLast Go.Proofs.YtedoloapddmanaaW.PrintMore
attribute [local go_sem] max2_int min2_int max_two min_two max_three min_three max_four min_four   -- for this text's walks alone
set_option linter.unusedVariables false
set_option linter.unusedSimpArgs false

/-! ### standbylaw32_CommitGrows: function 9 -/
def standbylaw32_CommitGrows.l0 : Nat → List (S71) → Int → Int → Int → List Int → Int → Int → Int → Int → Int → Int → List Int → List (S53) → Bool → Option (Bool)
  | 0, _, _, _, _, _, _, _, _, _, _, _, _, _, _ => none
  | k + 1, x0, x4, cR, cS, cT, cU, cI, cJ, cV, cW, cK, cX, cY, cZ => if x4 < (x0.length : Int) then (if 0 ≤ x4 then ((standbylaw32_step.f k cR cS cT cU cI cJ cV cW cK cX cY cZ ((rd_T71 x0 x4).f0) ((rd_T71 x0 x4).f1)).bind fun aQ => (if aQ.2.2.2.2.2.2.2.2.2.2.2 = true then (if aQ.2.2.2.2.2.2.2.2.1 < cK then (none) else (if aQ.2.2.2.2.1 < cI then (none) else (if aQ.2.2.2.2.2.1 < cJ then (none) else ((commit_CheckSource.f k aQ.1 aQ.2.1 aQ.2.2.1 aQ.2.2.2.1 aQ.2.2.2.2.1).bind fun bW => (if bW = 0 then ((commit_CheckTarget.f k aQ.2.2.2.2.2.1 aQ.2.2.2.2.2.2.1 aQ.2.2.2.2.2.2.2.1 aQ.2.2.2.2.2.2.2.2.1).bind fun bX => (if bX = 0 then (standbylaw32_CommitGrows.l0 k x0 (wrap64 (x4 + 1)) aQ.1 aQ.2.1 aQ.2.2.1 aQ.2.2.2.1 aQ.2.2.2.2.1 aQ.2.2.2.2.2.1 aQ.2.2.2.2.2.2.1 aQ.2.2.2.2.2.2.2.1 aQ.2.2.2.2.2.2.2.2.1 aQ.2.2.2.2.2.2.2.2.2.1 aQ.2.2.2.2.2.2.2.2.2.2.1 aQ.2.2.2.2.2.2.2.2.2.2.2) else (none))) else (none)))))) else (none))) else (none)) else ((standbylaw32_awake.f k).bind fun cL => (some cL))
def standbylaw32_CommitGrows.f (k : Nat) (l0 : List (S71)) : Option (Bool) := if (l0.length : Int) > 60 then ((standbylaw32_awake.f k).bind fun b1 => (some b1)) else ((standbylaw32_begin.f).bind fun aR => (standbylaw32_CommitGrows.l0 k l0 0 aR.1 aR.2.1 aR.2.2.1 aR.2.2.2.1 aR.2.2.2.2.1 aR.2.2.2.2.2.1 aR.2.2.2.2.2.2.1 aR.2.2.2.2.2.2.2.1 aR.2.2.2.2.2.2.2.2.1 aR.2.2.2.2.2.2.2.2.2.1 aR.2.2.2.2.2.2.2.2.2.2.1 aR.2.2.2.2.2.2.2.2.2.2.2))
theorem standbylaw32_CommitGrows.mono_l : ∀ k, (∀ y0 y1 y2 y3 y4 y5 y6 y7 y8 y9 y10 y11 y12 y13, LeO (standbylaw32_CommitGrows.l0 k y0 y1 y2 y3 y4 y5 y6 y7 y8 y9 y10 y11 y12 y13) (standbylaw32_CommitGrows.l0 (k + 1) y0 y1 y2 y3 y4 y5 y6 y7 y8 y9 y10 y11 y12 y13))
  | 0 => fun _ _ _ _ _ _ _ _ _ _ _ _ _ _ r h => by simp [standbylaw32_CommitGrows.l0] at h
  | k + 1 => by
    have ih0 := standbylaw32_CommitGrows.mono_l k
    · intro y0 y1 y2 y3 y4 y5 y6 y7 y8 y9 y10 y11 y12 y13
      unfold standbylaw32_CommitGrows.l0
      repeat' first
      | (with_reducible exact ih0 _ _ _ _ _ _ _ _ _ _ _ _ _ _)
      | (with_reducible exact commit_CheckSource.mono _ _ _ _ _ _)
      | (with_reducible exact commit_CheckTarget.mono _ _ _ _ _)
      | (with_reducible exact standbylaw32_awake.mono _)
      | (with_reducible exact standbylaw32_step.mono _ _ _ _ _ _ _ _ _ _ _ _ _ _ _)
      | (with_reducible exact LeO.refl _)
      | (with_reducible exact LeO.none _)
      | (with_reducible refine LeO.ite ?_ ?_)
      | (with_reducible refine LeO.bind ?_ (fun _ => ?_))
      | exact ih0 _ _ _ _ _ _ _ _ _ _ _ _ _ _
      | exact commit_CheckSource.mono _ _ _ _ _ _
      | exact commit_CheckTarget.mono _ _ _ _ _
      | exact standbylaw32_awake.mono _
      | exact standbylaw32_step.mono _ _ _ _ _ _ _ _ _ _ _ _ _ _ _
      | exact LeO.none _
      | refine LeO.ite ?_ ?_
      | refine LeO.bind ?_ (fun _ => ?_)
theorem standbylaw32_CommitGrows.mono : ∀ a0 k, LeO (standbylaw32_CommitGrows.f k a0) (standbylaw32_CommitGrows.f (k + 1) a0) := by
  intro a0 k
  have ih0 := standbylaw32_CommitGrows.mono_l k
  unfold standbylaw32_CommitGrows.f
  repeat' first
      | (with_reducible exact ih0 _ _ _ _ _ _ _ _ _ _ _ _ _ _)
      | (with_reducible exact commit_CheckSource.mono _ _ _ _ _ _)
      | (with_reducible exact commit_CheckTarget.mono _ _ _ _ _)
      | (with_reducible exact standbylaw32_awake.mono _)
      | (with_reducible exact standbylaw32_step.mono _ _ _ _ _ _ _ _ _ _ _ _ _ _ _)
      | (with_reducible exact LeO.refl _)
      | (with_reducible exact LeO.none _)
      | (with_reducible refine LeO.ite ?_ ?_)
      | (with_reducible refine LeO.bind ?_ (fun _ => ?_))
      | exact ih0 _ _ _ _ _ _ _ _ _ _ _ _ _ _
      | exact commit_CheckSource.mono _ _ _ _ _ _
      | exact commit_CheckTarget.mono _ _ _ _ _
      | exact standbylaw32_awake.mono _
      | exact standbylaw32_step.mono _ _ _ _ _ _ _ _ _ _ _ _ _ _ _
      | exact LeO.none _
      | refine LeO.ite ?_ ?_
      | refine LeO.bind ?_ (fun _ => ?_)
def standbylaw32_CommitGrows.T7 : Bool × List (List Nat × List Nat) := (true, [([], []), ([], []), ([], []), ([1, 2], [1, 2]), ([3], [3]), ([0, 4], [0, 4]), ([], []), ([6, 5, 5, 0, 1, 2, 3, 4, 5, 6], [5, 6])])
def standbylaw32_CommitGrows.B7 : List Nat := [0, 0, 0, 6, 14, 31, 0, 127]
theorem standbylaw32_CommitGrows.tab7 : rtab .any (opsOf Try.f9 7) = standbylaw32_CommitGrows.T7 := by kernel_rfl
theorem standbylaw32_CommitGrows.bits7 : waitsOk standbylaw32_CommitGrows.T7.2 standbylaw32_CommitGrows.B7 = true := by kernel_rfl
set_option maxHeartbeats 8000000 in
set_option maxRecDepth 100000 in
theorem standbylaw32_CommitGrows.calls (k : Nat) (A0 : Option Addr) (c0 : Nat) (l0 : List (S71)) (r : Bool) (w : World) (hr0 : Kd.C k71 w A0 l0.length l0) (hc0 : l0.length ≤ c0) (h : standbylaw32_CommitGrows.f k l0 = some r) :
    Calls Try.prog 9 #[.slice A0 l0.length c0] w fun e w' => e = .returned (.bool r) ∧ Below w.heap.size w w' := by
  have hu67 := Try.underlying67
  have hu71 := Try.underlying71
  have hu24 := Try.underlying24
  have hu26 := Try.underlying26
  have HR0 := Aside0.mk hr0
  have HC0 := Aside0.mk hc0
  clear hr0 hc0
  have HB := Aside0.mk (Below.refl w.heap.size w)
  have H : (if (l0.length : Int) > 60 then ((standbylaw32_awake.f k).bind fun b1 => (some b1)) else ((standbylaw32_begin.f).bind fun aR => (standbylaw32_CommitGrows.l0 k l0 0 aR.1 aR.2.1 aR.2.2.1 aR.2.2.2.1 aR.2.2.2.2.1 aR.2.2.2.2.2.1 aR.2.2.2.2.2.2.1 aR.2.2.2.2.2.2.2.1 aR.2.2.2.2.2.2.2.2.1 aR.2.2.2.2.2.2.2.2.2.1 aR.2.2.2.2.2.2.2.2.2.2.1 aR.2.2.2.2.2.2.2.2.2.2.2))) = some r := h
  clear h
  by_cases c2 : (l0.length : Int) > 60
  · rw [if_pos c2] at H
    have c2b0 : decide (60 < (l0.length : Int)) = true := decide_eq_true c2
    have c2b1 : decide (60 < l0.length) = true := decide_eq_true (by omega)
    clear c2
    replace H := Option.bind_eq_some_iff.mp H
    obtain ⟨b1, A30, H⟩ := H
    replace H : (some b1) = some r := H
    have A3 := Aside0.mk A30
    clear A30
    obtain rfl := Option.some.inj H
    go_enter Try.func9, Try.ntmps9
    go_wp2_with (first | ((with_reducible refine gate_callee (f := 12) rfl ?_); refine goesL_ (some 9) rfl rfl Try.func12 (by kernel_rfl) rfl #[] rfl (by (try simp only [List.map_toArray, List.map_cons, List.map_nil]); first | done | rfl | (simp only [List.length_drop, List.length_take]; rfl)) ?_; (with_reducible refine (standbylaw32_awake.calls k  b1 _ A3.out).mono ?_); rintro e w4 ⟨rfl, hb⟩; refine ⟨_, rfl, ?_⟩; replace HB := tB HB hb; (try clear hb); (try clear hb2); (try clear hk); (try clear hi)))
    go_ret
    exact ⟨by first | rfl | (simp [errW_none, errW_some] <;> rfl) | (simp [*, errW_none, errW_some] <;> rfl), (kB HB.out)⟩
  · rw [if_neg c2] at H
    have c2b0 : decide (60 < (l0.length : Int)) = false := decide_eq_false c2
    have c2b1 : decide (60 < l0.length) = false := decide_eq_false (by omega)
    clear c2
    replace H := Option.bind_eq_some_iff.mp H
    obtain ⟨⟨b8, b9, b2, cA, cB, cC, cD, cE, cF, b3, b4, cG⟩, A50, H⟩ := H
    (try dsimp only at H)
    have A5 := Aside0.mk A50
    clear A50
    have H' := Aside0.mk H
    clear H
    go_enter Try.func9, Try.ntmps9
    go_wp2_with (first | ((with_reducible refine gate_callee (f := 37) rfl ?_); refine goesL_ (some 10) rfl rfl Try.func37 (by kernel_rfl) rfl #[] rfl (by (try simp only [List.map_toArray, List.map_cons, List.map_nil]); first | done | rfl | (simp only [List.length_drop, List.length_take]; rfl)) ?_; (with_reducible refine (standbylaw32_begin.calls  b8 b9 b2 cA cB cC cD cE cF b3 b4 cG _ A5.out).mono ?_); rintro e w6 ⟨v741, v750, v753, rfl, ho0, ho1, ho2, hb⟩; refine ⟨_, rfl, ?_⟩; have b6 := Aside0.mk (Kd.R_lower ho0 (kZ HB.out)); have b7 := Aside0.mk (Kd.R_lower ho1 (kZ HB.out)); have b0 := Aside0.mk (Kd.R_lower ho2 (kZ HB.out)); replace HB := tB HB hb; (try clear hb); (try clear hb2); (try clear hk); (try clear hi); (try clear ho0); (try clear ho1); (try clear ho2)) | ((with_reducible refine gate_dst (N := 3) rfl ?_); refine box_event ?hg (N := 3) ?hd (cs := #[.int .i64 0, .int .i64 0, .slice none 0 0, .int .i64 0, .int .i64 0, .int .i64 0, .int .i64 0, .int .i64 0, .int .i64 0, .slice none 0 0, .slice none 0 0, .bool false]) (t := 67) ?hr ?_; (case hd => rfl); (case hg => rfl); (case hr => first | (go_simp; done) | (go_simp; rfl)); intro aB hg w7 hbox hb; replace b6 := tR b6 hb; replace b7 := tR b7 hb; replace b0 := tR b0 hb; have aC := Aside0.mk (hbox); have GW756 := gZ HB hg; have cQ := gZ HB hg; replace HB := tB HB hb; clear hb hbox hg; obtain ⟨c8, dA, dB, dC, dD, dE, dF, dG, dH, dI, c4, c5⟩ := cz12 aC.out; obtain ⟨dJ, dK, dL, dM, dN, dO, dP, dQ, dR, dS, c6, c7⟩ := fz12 aC.out; obtain ⟨Ao9, co9, eo9⟩ := Kd.R_slice b6.out; subst eo9; obtain ⟨cM, cN, dX⟩ := Kd.R_slice b7.out; subst dX; obtain ⟨cO, cP, dY⟩ := Kd.R_slice b0.out; subst dY))
    go_loopg [4] k (fun kq v4 w' => ∃ (aP : Int) (aS : Int) (aT : Int) (aK : List Int) (aU : Int) (aM : Int) (aN : Int) (aV : Int) (aW : Int) (aO : Int) (aI : List Int) (aJ : List (S53)) (aX : Bool) (b5 : Value) (bY : Value) (bZ : Value), v4 = .int .i64 aP ∧ Aside0 (standbylaw32_CommitGrows.l0 kq l0 aP aS aT aK aU aM aN aV aW aO aI aJ aX = some r) ∧ Aside0 (kq ≤ k) ∧ Aside0 (Kd.V (Kd.int .i64) 3 w' w.heap.size (fun k_ => some k_ ≠ (bY : Value).ownBlock ∧ some k_ ≠ (bZ : Value).ownBlock ∧ k_ ≠ aB) b5 aK) ∧ Aside0 (Kd.R (Kd.int .i64) 3 w' w.heap.size (fun _ => True) bY aI) ∧ Aside0 (Kd.R k53 53 w' w.heap.size (fun _ => True) bZ aJ) ∧ Aside0 (w'.heap[aB]? = some (.cells #[.int .i64 aS, .int .i64 aT, b5, .int .i64 aU, .int .i64 aM, .int .i64 aN, .int .i64 aV, .int .i64 aW, .int .i64 aO, bY, bZ, .bool aX] 67 (0, 0))) ∧ Aside0 (Below w.heap.size w w'))
    case atStart => exact ⟨(0), (b8), (b9), (b2), (cA), (cB), (cC), (cD), (cE), (cF), (b3), (b4), (cG), (.slice Ao9 b2.length co9), (.slice cM b3.length cN), (.slice cO b4.length cP), (by first | rfl | (simp; done) | (simp [*]; done)), H', ⟨Nat.le_refl _⟩, ⟨Kd.R_V (mR (Kd.R_mono (rg12_0 aB (Kd.R_types (Kd.R_types (Kd.R_apart' b6.out (Kd.R_typed b0.out) (by decide)) aC.out (by decide)) aC.out (by decide)) (fun _ hk => hk.2) (.int .i64 b8) (.int .i64 b9) (.slice Ao9 b2.length co9) (.int .i64 cA) (.int .i64 cB) (.int .i64 cC) (.int .i64 cD) (.int .i64 cE) (.int .i64 cF) (.slice cM b3.length cN) (.slice cO b4.length cP) (.bool cG)) (fun _ hk => ⟨hk.1.1.1, ⟨hk.1.1.2, hk.1.2⟩⟩)))⟩, ⟨by refine mR ?_; exact Kd.R_mono (rg12_0 aB (Kd.R_types b7.out aC.out (by decide)) (fun _ hk => hk.2) (.int .i64 b8) (.int .i64 b9) (.slice Ao9 b2.length co9) (.int .i64 cA) (.int .i64 cB) (.int .i64 cC) (.int .i64 cD) (.int .i64 cE) (.int .i64 cF) (.slice cM b3.length cN) (.slice cO b4.length cP) (.bool cG)) (fun _ hk => trivial)⟩, ⟨by refine mR ?_; exact Kd.R_mono (rg12_0 aB (Kd.R_types b0.out aC.out (by decide)) (fun _ hk => hk.2) (.int .i64 b8) (.int .i64 b9) (.slice Ao9 b2.length co9) (.int .i64 cA) (.int .i64 cB) (.int .i64 cC) (.int .i64 cD) (.int .i64 cE) (.int .i64 cF) (.slice cM b3.length cN) (.slice cO b4.length cP) (.bool cG)) (fun _ hk => trivial)⟩, ⟨by exact (mK (pt12_0_12 aC.out))⟩, ⟨kB HB.out⟩⟩
    case round =>
      clear H'
      try clear c1
      try clear c2
      try clear c2b0
      try clear c2b1
      try clear p2
      try clear c3
      try clear c9
      try clear c8 dA c4 c5 dB dC dD dE dF dG dH dI
      try clear dJ dK c6 c7 dL dM dN dO dP dQ dR dS
      obtain ⟨aP, aS, aT, aK, aU, aM, aN, aV, aW, aO, aI, aJ, aX, b5, bY, bZ, rfl, HA, HK1, aD, aG, aH, aC, HB⟩ := hrel
      cases gk with
      | zero => exact absurd HA.out (by simp [standbylaw32_CommitGrows.l0])
      | succ k1 =>
        have H := HA.out
        clear HA
        simp only [standbylaw32_CommitGrows.l0] at H
        by_cases c12 : aP < (l0.length : Int)
        · rw [if_pos c12] at H
          have dW : decide (aP < (l0.length : Int)) = true := decide_eq_true c12
          clear c12
          by_cases c13 : 0 ≤ aP
          · rw [if_pos c13] at H
            have c13b0 : decide (0 ≤ aP) = true := decide_eq_true c13
            clear c13
            replace H := Option.bind_eq_some_iff.mp H
            obtain ⟨⟨a8, a9, aY, bA, aZ, a1, bB, bC, a2, a4, a5, dZ⟩, A140, H⟩ := H
            (try dsimp only at H)
            have A14 := Aside0.mk A140
            clear A140
            by_cases c15 : dZ = true
            · subst c15
              have H1 : (if a2 < aO then (none) else (if aZ < aM then (none) else (if a1 < aN then (none) else ((commit_CheckSource.f k1 a8 a9 aY bA aZ).bind fun bW => (if bW = 0 then ((commit_CheckTarget.f k1 a1 bB bC a2).bind fun bX => (if bX = 0 then (standbylaw32_CommitGrows.l0 k1 l0 (wrap64 (aP + 1)) a8 a9 aY bA aZ a1 bB bC a2 a4 a5 true) else (none))) else (none)))))) = some r := by rw [if_pos rfl] at H; exact H
              clear H
              have H := H1
              clear H1
              by_cases c16 : a2 < aO
              · rw [if_pos c16] at H
                exact absurd H (by simp)
              · rw [if_neg c16] at H
                have c16b0 : decide (a2 < aO) = false := decide_eq_false c16
                clear c16
                by_cases c17 : aZ < aM
                · rw [if_pos c17] at H
                  exact absurd H (by simp)
                · rw [if_neg c17] at H
                  have c17b0 : decide (aZ < aM) = false := decide_eq_false c17
                  clear c17
                  by_cases c18 : a1 < aN
                  · rw [if_pos c18] at H
                    exact absurd H (by simp)
                  · rw [if_neg c18] at H
                    have c18b0 : decide (a1 < aN) = false := decide_eq_false c18
                    clear c18
                    replace H := Option.bind_eq_some_iff.mp H
                    obtain ⟨bW, A190, H⟩ := H
                    (try dsimp only at H)
                    have A19 := Aside0.mk A190
                    clear A190
                    by_cases c20 : bW = 0
                    · rw [if_pos c20] at H
                      have c20b0 : (bW == 0) = true := beq_iff_eq.mpr c20
                      have c20b1 : (bW != 0) = false := bne_eq_false_iff_eq.mpr c20
                      clear c20
                      replace H := Option.bind_eq_some_iff.mp H
                      obtain ⟨bX, A210, H⟩ := H
                      (try dsimp only at H)
                      have A21 := Aside0.mk A210
                      clear A210
                      by_cases c22 : bX = 0
                      · rw [if_pos c22] at H
                        have c22b0 : (bX == 0) = true := beq_iff_eq.mpr c22
                        have c22b1 : (bX != 0) = false := bne_eq_false_iff_eq.mpr c22
                        clear c22
                        have H' := Aside0.mk H
                        clear H
                        obtain ⟨bR, bS, d0⟩ := Kd.V_slice aD.out
                        subst d0
                        obtain ⟨bE, bF, d1⟩ := Kd.R_slice aG.out
                        subst d1
                        obtain ⟨bG, bH, d2⟩ := Kd.R_slice aH.out
                        subst d2
                        try go_wp2
                        have n0_ := Aside0.mk (Kd.V_drew aD.out)
                        have n1_ := Aside0.mk (Kd.R_drew aG.out)
                        have n2_ := Aside0.mk (Kd.R_drew aH.out)
                        have n3_ := Aside0.mk (blk_drew aC.out)
                        have n4_ := Aside0.mk (below_drew1 HB.out)
                        clear aD
                        clear aG
                        clear aH
                        clear aC
                        clear HB
                        have aD := n0_
                        have aG := n1_
                        have aH := n2_
                        have aC := n3_
                        have HB := n4_
                        clear n0_ n1_ n2_ n3_ n4_
                        have p758 : 0 ≤ (aP : Int) := of_decide_eq_true (by first | (with_reducible assumption) | assumption)
                        have q758 : aP < (l0.length : Int) := of_decide_eq_true (by first | (with_reducible assumption) | assumption)
                        obtain ⟨bJ, e758, bU, bV⟩ := at_T71 HR0.out aP p758 q758
                        have hw758_1 := bV
                        have hw758_0 := bU
                        cases e758
                        replace bU := (HB.out.cell (World.block_lt_of_cell? w _ bU)).trans bU
                        replace bV := (HB.out.cell (World.block_lt_of_cell? w _ bV)).trans bV
                        replace p758 := eq_true p758
                        replace q758 := eq_true q758
                        refine start_ (n := 8) (S := fun w' => w'.cell? ⟨aB, 0, none⟩ = some (.int .i64 aS) ∧ w'.cell? ⟨aB, 1, none⟩ = some (.int .i64 aT) ∧ w'.cell? ⟨aB, 2, none⟩ = some (.slice bR aK.length bS) ∧ w'.cell? ⟨aB, 3, none⟩ = some (.int .i64 aU) ∧ w'.cell? ⟨aB, 4, none⟩ = some (.int .i64 aM) ∧ w'.cell? ⟨aB, 5, none⟩ = some (.int .i64 aN) ∧ w'.cell? ⟨aB, 6, none⟩ = some (.int .i64 aV) ∧ w'.cell? ⟨aB, 7, none⟩ = some (.int .i64 aW) ∧ w'.cell? ⟨aB, 8, none⟩ = some (.int .i64 aO) ∧ w'.cell? ⟨aB, 9, none⟩ = some (.slice bE aI.length bF) ∧ w'.cell? ⟨aB, 10, none⟩ = some (.slice bG aJ.length bH) ∧ w'.cell? ⟨aB, 11, none⟩ = some (.bool aX) ∧ w'.cell? (bJ.add ((aP).toNat * 2)) = some (.int .u8 ((rd_T71 l0 aP).f0)) ∧ w'.cell? ⟨(bJ.add ((aP).toNat * 2)).block, (bJ.add ((aP).toNat * 2)).off + 1, none⟩ = some (.int .u8 ((rd_T71 l0 aP).f1))) (ds := []) #[false, false, false, false, false, false, false, false] (by kernel_rfl) rfl rfl (ct12 aC.out ⟨((HB.out.cell (World.block_lt_of_cell? w _ hw758_0)).trans hw758_0), ((HB.out.cell (World.block_lt_of_cell? w _ hw758_1)).trans hw758_1)⟩) (fun hHeld => ?_); refine with_tabW standbylaw32_CommitGrows.tab7 standbylaw32_CommitGrows.bits7 (fun HT_ HW_ => ?_)
                        generalize wr.drew = w26 at aD aG aH aC HB bU bV hHeld ⊢
                        refine pure_ (i := 1) (N := some 18) (v := ?_) (a' := ?_) (bs 8 2) rfl rfl (any_of HT_.out (by kernel_rfl)) (fun _ _ _ h => h) (Or.inl ⟨by rfl, ?_⟩) ?_ ?_
                        rotate_left
                        · intro w'
                          go_simp
                          with_reducible rfl
                        rotate_left
                        · simp only [Act.put, sA, sB, sC, i64_w, i32_w]
                          rfl
                        refine pure_ (i := 2) (N := some 19) (v := ?_) (a' := ?_) (bs 8 6) rfl rfl (any_of HT_.out (by kernel_rfl)) (fun _ _ _ h => h) (Or.inl ⟨by rfl, ?_⟩) ?_ ?_
                        rotate_left
                        · intro w'
                          go_simp
                          with_reducible rfl
                        rotate_left
                        · simp only [Act.put, sA, sB, sC, i64_w, i32_w]
                          rfl
                        refine pure_ (i := 3) (N := some 20) (v := ?_) (a' := ?_) (bs 8 14) rfl rfl (any_of HT_.out (by kernel_rfl)) (fun _ _ _ h => h) (Or.inl ⟨by rfl, ?_⟩) ?_ ?_
                        rotate_left
                        · intro w'
                          go_simp
                          with_reducible rfl
                        rotate_left
                        · simp only [Act.put, sA, sB, sC, i64_w, i32_w]
                          rfl
                        refine take_ (i := 0) (N := some 17) (v := ?_) (a' := ?_) (bs 8 15) rfl rfl (take_ofW HT_.out HW_.out (by kernel_rfl)) (fun _ _ _ h => h) (Or.inl ⟨by rfl, ?_⟩) hHeld ?_ ?_
                        rotate_left
                        · rintro w' ⟨s0, s1, s2, s3, s4, s5, s6, s7, s8, s9, s10, s11, s12, s13⟩
                          go_simp
                          with_reducible rfl
                        rotate_left
                        · simp only [Act.put, sA, sB, sC, i64_w, i32_w]
                          rfl
                        refine take_ (i := 4) (N := some 21) (v := ?_) (a' := ?_) (bs 8 31) rfl rfl (take_ofW HT_.out HW_.out (by kernel_rfl)) (fun _ _ _ h => h) (Or.inl ⟨by rfl, ?_⟩) hHeld ?_ ?_
                        rotate_left
                        · rintro w' ⟨s0, s1, s2, s3, s4, s5, s6, s7, s8, s9, s10, s11, s12, s13⟩
                          go_simp
                          with_reducible rfl
                        rotate_left
                        · simp only [Act.put, sA, sB, sC, i64_w, i32_w]
                          rfl
                        refine join_ (σ := Value × Value × Value × Nat) 1 #[true, true, true, true, true, true, true, false] (fun s_ => [(22, .agg #[.int .i64 a8, .int .i64 a9, s_.1, .int .i64 bA, .int .i64 aZ, .int .i64 a1, .int .i64 bB, .int .i64 bC, .int .i64 a2, s_.2.1, s_.2.2.1, .bool true]), (5, .pointer (some ⟨s_.2.2.2, 0, none⟩))]) (fun s_ w' => (w'.cell? ⟨aB, 0, none⟩ = some (.int .i64 aS) ∧ w'.cell? ⟨aB, 1, none⟩ = some (.int .i64 aT) ∧ w'.cell? ⟨aB, 2, none⟩ = some (.slice bR aK.length bS) ∧ w'.cell? ⟨aB, 3, none⟩ = some (.int .i64 aU) ∧ w'.cell? ⟨aB, 4, none⟩ = some (.int .i64 aM) ∧ w'.cell? ⟨aB, 5, none⟩ = some (.int .i64 aN) ∧ w'.cell? ⟨aB, 6, none⟩ = some (.int .i64 aV) ∧ w'.cell? ⟨aB, 7, none⟩ = some (.int .i64 aW) ∧ w'.cell? ⟨aB, 8, none⟩ = some (.int .i64 aO) ∧ w'.cell? ⟨aB, 9, none⟩ = some (.slice bE aI.length bF) ∧ w'.cell? ⟨aB, 10, none⟩ = some (.slice bG aJ.length bH) ∧ w'.cell? ⟨aB, 11, none⟩ = some (.bool aX) ∧ w'.cell? (bJ.add ((aP).toNat * 2)) = some (.int .u8 ((rd_T71 l0 aP).f0)) ∧ w'.cell? ⟨(bJ.add ((aP).toNat * 2)).block, (bJ.add ((aP).toNat * 2)).off + 1, none⟩ = some (.int .u8 ((rd_T71 l0 aP).f1))) ∧ (Kd.V (Kd.int .i64) 3 w' w.heap.size (fun k_ => some k_ ≠ (s_.2.1 : Value).ownBlock ∧ some k_ ≠ (s_.2.2.1 : Value).ownBlock ∧ k_ ≠ aB ∧ k_ ≠ s_.2.2.2) s_.1 aY) ∧ (Kd.R (Kd.int .i64) 3 w' w.heap.size (fun _ => True) s_.2.1 a4) ∧ (Kd.R k53 53 w' w.heap.size (fun _ => True) s_.2.2.1 a5) ∧ (Kd.V (Kd.int .i64) 3 w' w.heap.size (fun k_ => some k_ ≠ (s_.2.1 : Value).ownBlock ∧ some k_ ≠ (s_.2.2.1 : Value).ownBlock ∧ k_ ≠ aB ∧ k_ ≠ s_.2.2.2) (.slice bR aK.length bS) aK) ∧ (w'.heap[aB]? = some (.cells #[.int .i64 aS, .int .i64 aT, .slice bR aK.length bS, .int .i64 aU, .int .i64 aM, .int .i64 aN, .int .i64 aV, .int .i64 aW, .int .i64 aO, .slice bE aI.length bF, .slice bG aJ.length bH, .bool aX] 67 (0, 0))) ∧ (w'.heap[s_.2.2.2]? = some (.cells #[.int .i64 0, .int .i64 0, .slice none 0 0, .int .i64 0, .int .i64 0, .int .i64 0, .int .i64 0, .int .i64 0, .int .i64 0, .slice none 0 0, .slice none 0 0, .bool false] 67 (0, 0))) ∧ (w.heap.size ≤ s_.2.2.2) ∧ (w.heap.size ≤ s_.2.2.2) ∧ (aB ≠ s_.2.2.2) ∧ (s_.2.2.2 ≠ aB) ∧ (Below w.heap.size w w')) ?_ ?_
                        rotate_left
                        · intro hCont
                          refine two_ (i := 5) (j := 6) (Ni := some 22) (Nj := some 5) #[true, true, true, true, true, true, false, false] #[true, true, true, true, true, false, true, false] rfl rfl rfl rfl (two_of HT_.out (by kernel_rfl)) (by decide) (by decide) (fun K hK => ?_) (fun K hK => ?_)
                          · skip
                            refine goes_ Try.func38 (by kernel_rfl) rfl #[.agg #[.int .i64 aS, .int .i64 aT, .slice bR aK.length bS, .int .i64 aU, .int .i64 aM, .int .i64 aN, .int .i64 aV, .int .i64 aW, .int .i64 aO, .slice bE aI.length bF, .slice bG aJ.length bH, .bool aX], .agg #[.int .u8 ((rd_T71 l0 aP).f0), .int .u8 ((rd_T71 l0 aP).f1)]] (by rfl) rfl rfl (by (try simp only [List.map_toArray, List.map_cons, List.map_nil]); first | done | rfl | (simp only [List.length_drop, List.length_take]; rfl)) ?_
                            with_reducible refine (standbylaw32_step.calls k1 aS aT (fun k_ => (some k_ ≠ (.slice bE aI.length bF : Value).ownBlock ∧ (some k_ ≠ (.slice bG aJ.length bH : Value).ownBlock ∧ k_ ≠ aB))) _ _ aK aU aM aN aV aW aO (fun k_ => some k_ = (.slice bE aI.length bF : Value).ownBlock) (.slice bE aI.length bF) aI (fun k_ => some k_ = (.slice bG aJ.length bH : Value).ownBlock) (.slice bG aJ.length bH) aJ aX ((rd_T71 l0 aP).f0) ((rd_T71 l0 aP).f1) a8 a9 aY bA aZ a1 bB bC a2 a4 a5 true w _ ?side1 ?side2 ?side3 ?side4 A14.out).mono ?_
                            (case side1 => repeat (first | (with_reducible first | exact HB.out | apply below_alloc | apply pw_below_drewN | apply below_drew1 | refine below_set ?_ cQ.out) | exact HB.out))
                            (case side2 => exact Kd.V_mono (aD.out) (fun k_ hk_ => ⟨hk_, hk_.1, hk_.2.1⟩))
                            (case side3 => exact Kd.R_tight rfl aG.out)
                            (case side4 => exact Kd.R_tight rfl aH.out)
                            rintro e w27 ⟨cH, bK, bL, rfl, ho0, ho1, ho2, hb, hkp⟩
                            refine ⟨_, rfl, ?_⟩
                            have n0_ := Aside0.mk (Kd.V_mono (ok' := fun k_ => k_ ≠ aB ∧ some k_ ≠ (bK : Value).ownBlock ∧ some k_ ≠ (bL : Value).ownBlock) (Kd.V_keptB (aD.out) hkp (fun k_ hk_ hs_ => Or.elim hs_ (fun e_ => (hk_.1) e_) (fun e_ => (hk_.2.1) e_))) (fun k_ hk_ => ⟨hk_.1.2.2, fun e_ => Or.elim (ho1.1 k_ e_.symm) (fun hs_ => hk_.2.1 hs_) (fun hn_ => Nat.not_le.2 hk_.2.2 hn_), fun e_ => Or.elim (ho2.1 k_ e_.symm) (fun hs_ => hk_.2.1 hs_) (fun hn_ => Nat.not_le.2 hk_.2.2 hn_)⟩))
                            have n1_ := Aside0.mk (blk_kept (mK aC.out) hkp (fun hs_ => Or.elim hs_ (fun e_ => (fun e_ => (Kd.R_ne aG.out aC.out (by decide)) e_) e_) (fun e_ => (fun e_ => (Kd.R_ne aH.out aC.out (by decide)) e_) e_)))
                            have n2_ := Aside0.mk (Kd.V_mono (ok' := fun k_ => some k_ ≠ (bK : Value).ownBlock ∧ some k_ ≠ (bL : Value).ownBlock ∧ k_ ≠ aB) ho0 (fun k_ hk_ => ⟨hk_.2.1, hk_.2.2, Or.elim hk_.1 (fun hs_ => Or.elim hs_ (fun hs_ => fun e_ => (Kd.R_ne aG.out aC.out (by decide)) (by rw [← e_]; exact hs_)) (fun hs_ => Or.elim hs_ (fun hs_ => fun e_ => (Kd.R_ne aH.out aC.out (by decide)) (by rw [← e_]; exact hs_)) (fun hs_ => hs_.2.2))) (fun hn_ => (Kd.freshB (mK aC.out) k_ hn_))⟩))
                            have n3_ := Aside0.mk (Kd.R_mono (ok' := fun k_ => True) ho1 (fun k_ hk_ => trivial))
                            have n4_ := Aside0.mk (Kd.R_mono (ok' := fun k_ => True) ho2 (fun k_ hk_ => trivial))
                            have n5_ := Aside0.mk (hb)
                            clear aD
                            clear aC
                            clear HB
                            clear aG
                            clear aH
                            have aD := n0_
                            have aC := n1_
                            have a3 := n2_
                            have a6 := n3_
                            have a7 := n4_
                            have HB := n5_
                            clear n0_ n1_ n2_ n3_ n4_ n5_
                            (try clear hb)
                            (try clear hkp)
                            (try clear ho0)
                            (try clear ho1)
                            (try clear ho2)
                            refine hK.out _ _ (ct12 aC.out ⟨((HB.out.cell (World.block_lt_of_cell? w _ hw758_0)).trans hw758_0), ((HB.out.cell (World.block_lt_of_cell? w _ hw758_1)).trans hw758_1)⟩) (fun hHeld => ?_)
                            clear hK K
                            refine norm_ (a' := ?_) ?_ ?_
                            rotate_left
                            · show Act.put _ (some 22) _ = _
                              simp only [Act.put, sA, sB, sC, i64_w, i32_w]
                              rfl
                            refine one_ (i := 6) (N := some 5) (bs 8 127) rfl rfl (one_of HT_.out (by kernel_rfl)) (by decide) (fun K hK => ?_)
                            refine box_step ?hg (N := 5) ?hd (cs := #[.int .i64 0, .int .i64 0, .slice none 0 0, .int .i64 0, .int .i64 0, .int .i64 0, .int .i64 0, .int .i64 0, .int .i64 0, .slice none 0 0, .slice none 0 0, .bool false]) (t := 67) ?hr ?_; (case hd => rfl); (case hg => rfl); (case hr => first | (go_simp; done) | (go_simp; rfl))
                            intro aF hg w28 hbox hb
                            have n0_ := Aside0.mk (Kd.V_below (Kd.V_elderB (mV aD.out) aF (Nat.le_of_eq hg.symm)) hb)
                            have n1_ := Aside0.mk (Kd.V_below (Kd.V_elderB (mV a3.out) aF (Nat.le_of_eq hg.symm)) hb)
                            have n2_ := tR a6 hb
                            have n3_ := tR a7 hb
                            have n4_ := tK aC hb
                            have n5_ := tB HB hb
                            have n6_ := Aside0.mk (hbox)
                            have n7_ := gZ HB hg
                            have n8_ := gZ HB hg
                            have n9_ := nL aC hg
                            have n10_ := nG aC hg
                            clear aD
                            clear a3
                            clear a6
                            clear a7
                            clear aC
                            clear HB
                            have aD := n0_
                            have a3 := n1_
                            have a6 := n2_
                            have a7 := n3_
                            have aC := n4_
                            have HB := n5_
                            have aE := n6_
                            have bD := n7_
                            have bI := n8_
                            have aA := n9_
                            have aL := n10_
                            clear n0_ n1_ n2_ n3_ n4_ n5_ n6_ n7_ n8_ n9_ n10_
                            clear hb hbox hg
                            refine hK.out _ _ (ct12 aC.out ⟨((HB.out.cell (World.block_lt_of_cell? w _ hw758_0)).trans hw758_0), ((HB.out.cell (World.block_lt_of_cell? w _ hw758_1)).trans hw758_1)⟩) (fun hHeld => ?_)
                            clear hK K
                            refine norm_ (a' := ?_) ?_ ?_
                            rotate_left
                            · show Act.put _ (some 5) _ = _
                              simp only [Act.put, sA, sB, sC, i64_w, i32_w]
                              rfl
                            exact norm_ (by simp only [putAll, Act.put, List.setIfInBounds_toArray, List.set_cons_zero, List.set_cons_succ]) (hCont (cH, bK, bL, aF) _ ⟨hHeld, (mV (Kd.V_mono a3.out (fun _ hk => ⟨hk.1.1, ⟨hk.1.2.1, ⟨hk.1.2.2, hk.2⟩⟩⟩))), (mR a6.out), (mR a7.out), (mV (Kd.V_mono aD.out (fun _ hk => ⟨hk.1.2.1, ⟨hk.1.2.2, ⟨hk.1.1, hk.2⟩⟩⟩))), (mK aC.out), (mK aE.out), bD.out, bI.out, aA.out, aL.out, (by haveI := Ge.mk bI.out; exact kB HB.out)⟩)
                          · skip
                            refine box_step ?hg (N := 5) ?hd (cs := #[.int .i64 0, .int .i64 0, .slice none 0 0, .int .i64 0, .int .i64 0, .int .i64 0, .int .i64 0, .int .i64 0, .int .i64 0, .slice none 0 0, .slice none 0 0, .bool false]) (t := 67) ?hr ?_; (case hd => rfl); (case hg => rfl); (case hr => first | (go_simp; done) | (go_simp; rfl))
                            intro aF hg w27 hbox hb
                            have n0_ := Aside0.mk (Kd.V_below (Kd.V_elderB (mV aD.out) aF (Nat.le_of_eq hg.symm)) hb)
                            have n1_ := tR aG hb
                            have n2_ := tR aH hb
                            have n3_ := tK aC hb
                            have n4_ := tB HB hb
                            have n5_ := Aside0.mk (hbox)
                            have n6_ := gZ HB hg
                            have n7_ := gZ HB hg
                            have n8_ := nL aC hg
                            have n9_ := nG aC hg
                            clear aD
                            clear aG
                            clear aH
                            clear aC
                            clear HB
                            have aD := n0_
                            have aG := n1_
                            have aH := n2_
                            have aC := n3_
                            have HB := n4_
                            have aE := n5_
                            have bD := n6_
                            have bI := n7_
                            have aA := n8_
                            have aL := n9_
                            clear n0_ n1_ n2_ n3_ n4_ n5_ n6_ n7_ n8_ n9_
                            clear hb hbox hg
                            refine hK.out _ _ (ct12 aC.out ⟨((HB.out.cell (World.block_lt_of_cell? w _ hw758_0)).trans hw758_0), ((HB.out.cell (World.block_lt_of_cell? w _ hw758_1)).trans hw758_1)⟩) (fun hHeld => ?_)
                            clear hK K
                            refine norm_ (a' := ?_) ?_ ?_
                            rotate_left
                            · show Act.put _ (some 5) _ = _
                              simp only [Act.put, sA, sB, sC, i64_w, i32_w]
                              rfl
                            refine one_ (i := 5) (N := some 22) (bs 8 127) rfl rfl (one_of HT_.out (by kernel_rfl)) (by decide) (fun K hK => ?_)
                            refine goes_ Try.func38 (by kernel_rfl) rfl #[.agg #[.int .i64 aS, .int .i64 aT, .slice bR aK.length bS, .int .i64 aU, .int .i64 aM, .int .i64 aN, .int .i64 aV, .int .i64 aW, .int .i64 aO, .slice bE aI.length bF, .slice bG aJ.length bH, .bool aX], .agg #[.int .u8 ((rd_T71 l0 aP).f0), .int .u8 ((rd_T71 l0 aP).f1)]] (by rfl) rfl rfl (by (try simp only [List.map_toArray, List.map_cons, List.map_nil]); first | done | rfl | (simp only [List.length_drop, List.length_take]; rfl)) ?_
                            with_reducible refine (standbylaw32_step.calls k1 aS aT (fun k_ => ((some k_ ≠ (.slice bE aI.length bF : Value).ownBlock ∧ (some k_ ≠ (.slice bG aJ.length bH : Value).ownBlock ∧ k_ ≠ aB)) ∧ k_ ≠ aF)) _ _ aK aU aM aN aV aW aO (fun k_ => some k_ = (.slice bE aI.length bF : Value).ownBlock) (.slice bE aI.length bF) aI (fun k_ => some k_ = (.slice bG aJ.length bH : Value).ownBlock) (.slice bG aJ.length bH) aJ aX ((rd_T71 l0 aP).f0) ((rd_T71 l0 aP).f1) a8 a9 aY bA aZ a1 bB bC a2 a4 a5 true w _ ?side1 ?side2 ?side3 ?side4 A14.out).mono ?_
                            (case side1 => repeat (first | (with_reducible first | exact HB.out | apply below_alloc | apply pw_below_drewN | apply below_drew1 | refine below_set ?_ cQ.out | refine below_set ?_ bI.out) | exact HB.out))
                            (case side2 => exact Kd.V_mono (aD.out) (fun k_ hk_ => ⟨hk_, hk_.1.1, hk_.1.2.1⟩))
                            (case side3 => exact Kd.R_tight rfl aG.out)
                            (case side4 => exact Kd.R_tight rfl aH.out)
                            rintro e w28 ⟨cH, bK, bL, rfl, ho0, ho1, ho2, hb, hkp⟩
                            refine ⟨_, rfl, ?_⟩
                            have n0_ := Aside0.mk (Kd.V_mono (ok' := fun k_ => k_ ≠ aB ∧ k_ ≠ aF ∧ some k_ ≠ (bK : Value).ownBlock ∧ some k_ ≠ (bL : Value).ownBlock) (Kd.V_keptB (aD.out) hkp (fun k_ hk_ hs_ => Or.elim hs_ (fun e_ => (hk_.1.1) e_) (fun e_ => (hk_.1.2.1) e_))) (fun k_ hk_ => ⟨hk_.1.1.2.2, hk_.1.2, fun e_ => Or.elim (ho1.1 k_ e_.symm) (fun hs_ => hk_.2.1 hs_) (fun hn_ => Nat.not_le.2 hk_.2.2 hn_), fun e_ => Or.elim (ho2.1 k_ e_.symm) (fun hs_ => hk_.2.1 hs_) (fun hn_ => Nat.not_le.2 hk_.2.2 hn_)⟩))
                            have n1_ := Aside0.mk (blk_kept (mK aC.out) hkp (fun hs_ => Or.elim hs_ (fun e_ => (fun e_ => (Kd.R_ne aG.out aC.out (by decide)) e_) e_) (fun e_ => (fun e_ => (Kd.R_ne aH.out aC.out (by decide)) e_) e_)))
                            have n2_ := Aside0.mk (blk_kept (mK aE.out) hkp (fun hs_ => Or.elim hs_ (fun e_ => (fun e_ => (Kd.R_ne aG.out aE.out (by decide)) e_) e_) (fun e_ => (fun e_ => (Kd.R_ne aH.out aE.out (by decide)) e_) e_)))
                            have n3_ := Aside0.mk (Kd.V_mono (ok' := fun k_ => some k_ ≠ (bK : Value).ownBlock ∧ some k_ ≠ (bL : Value).ownBlock ∧ k_ ≠ aB ∧ k_ ≠ aF) ho0 (fun k_ hk_ => ⟨hk_.2.1, hk_.2.2, Or.elim hk_.1 (fun hs_ => Or.elim hs_ (fun hs_ => fun e_ => (Kd.R_ne aG.out aC.out (by decide)) (by rw [← e_]; exact hs_)) (fun hs_ => Or.elim hs_ (fun hs_ => fun e_ => (Kd.R_ne aH.out aC.out (by decide)) (by rw [← e_]; exact hs_)) (fun hs_ => hs_.1.2.2))) (fun hn_ => (Kd.freshB (mK aC.out) k_ hn_)), Or.elim hk_.1 (fun hs_ => Or.elim hs_ (fun hs_ => fun e_ => (Kd.R_ne aG.out aE.out (by decide)) (by rw [← e_]; exact hs_)) (fun hs_ => Or.elim hs_ (fun hs_ => fun e_ => (Kd.R_ne aH.out aE.out (by decide)) (by rw [← e_]; exact hs_)) (fun hs_ => hs_.2))) (fun hn_ => (Kd.freshB (mK aE.out) k_ hn_))⟩))
                            have n4_ := Aside0.mk (Kd.R_mono (ok' := fun k_ => True) ho1 (fun k_ hk_ => trivial))
                            have n5_ := Aside0.mk (Kd.R_mono (ok' := fun k_ => True) ho2 (fun k_ hk_ => trivial))
                            have n6_ := Aside0.mk (hb)
                            clear aD
                            clear aC
                            clear aE
                            clear HB
                            clear aG
                            clear aH
                            have aD := n0_
                            have aC := n1_
                            have aE := n2_
                            have a3 := n3_
                            have a6 := n4_
                            have a7 := n5_
                            have HB := n6_
                            clear n0_ n1_ n2_ n3_ n4_ n5_ n6_
                            (try clear hb)
                            (try clear hkp)
                            (try clear ho0)
                            (try clear ho1)
                            (try clear ho2)
                            refine hK.out _ _ (ct12 aC.out ⟨((HB.out.cell (World.block_lt_of_cell? w _ hw758_0)).trans hw758_0), ((HB.out.cell (World.block_lt_of_cell? w _ hw758_1)).trans hw758_1)⟩) (fun hHeld => ?_)
                            clear hK K
                            refine norm_ (a' := ?_) ?_ ?_
                            rotate_left
                            · show Act.put _ (some 22) _ = _
                              simp only [Act.put, sA, sB, sC, i64_w, i32_w]
                              rfl
                            exact norm_ (by simp only [putAll, Act.put, List.setIfInBounds_toArray, List.set_cons_zero, List.set_cons_succ]) (hCont (cH, bK, bL, aF) _ ⟨hHeld, (mV a3.out), (mR a6.out), (mR a7.out), (mV (Kd.V_mono aD.out (fun _ hk => ⟨hk.2.2.1, ⟨hk.2.2.2, ⟨hk.1, hk.2.1⟩⟩⟩))), (mK aC.out), (mK aE.out), bD.out, bI.out, aA.out, aL.out, (by haveI := Ge.mk bI.out; exact kB HB.out)⟩)
                        rintro ⟨cH, bK, bL, aF⟩ w29 ⟨hS_, h0_, h1_, h2_, h3_, h4_, h5_, h6_, h7_, h8_, h9_, h10_⟩
                        have n0_ : Aside0 (Kd.V (Kd.int .i64) 3 w29 w.heap.size (fun k_ => some k_ ≠ (bK : Value).ownBlock ∧ some k_ ≠ (bL : Value).ownBlock ∧ k_ ≠ aB ∧ k_ ≠ aF) cH aY) := ⟨h0_⟩
                        have n1_ : Aside0 (Kd.R (Kd.int .i64) 3 w29 w.heap.size (fun _ => True) bK a4) := ⟨h1_⟩
                        have n2_ : Aside0 (Kd.R k53 53 w29 w.heap.size (fun _ => True) bL a5) := ⟨h2_⟩
                        have n3_ : Aside0 (Kd.V (Kd.int .i64) 3 w29 w.heap.size (fun k_ => some k_ ≠ (bK : Value).ownBlock ∧ some k_ ≠ (bL : Value).ownBlock ∧ k_ ≠ aB ∧ k_ ≠ aF) (.slice bR aK.length bS) aK) := ⟨h3_⟩
                        have n4_ : Aside0 (w29.heap[aB]? = some (.cells #[.int .i64 aS, .int .i64 aT, .slice bR aK.length bS, .int .i64 aU, .int .i64 aM, .int .i64 aN, .int .i64 aV, .int .i64 aW, .int .i64 aO, .slice bE aI.length bF, .slice bG aJ.length bH, .bool aX] 67 (0, 0))) := ⟨h4_⟩
                        have n5_ : Aside0 (w29.heap[aF]? = some (.cells #[.int .i64 0, .int .i64 0, .slice none 0 0, .int .i64 0, .int .i64 0, .int .i64 0, .int .i64 0, .int .i64 0, .int .i64 0, .slice none 0 0, .slice none 0 0, .bool false] 67 (0, 0))) := ⟨h5_⟩
                        have n6_ : Aside0 (w.heap.size ≤ aF) := ⟨h6_⟩
                        have n7_ : Aside0 (w.heap.size ≤ aF) := ⟨h7_⟩
                        have n8_ : Aside0 (aB ≠ aF) := ⟨h8_⟩
                        have n9_ : Aside0 (aF ≠ aB) := ⟨h9_⟩
                        have n10_ : Aside0 (Below w.heap.size w w29) := ⟨h10_⟩
                        clear aD
                        clear aG
                        clear aH
                        clear aC
                        clear HB
                        clear h0_ h1_ h2_ h3_ h4_ h5_ h6_ h7_ h8_ h9_ h10_
                        have a3 := n0_
                        have a6 := n1_
                        have a7 := n2_
                        have aD := n3_
                        have aC := n4_
                        have aE := n5_
                        have bD := n6_
                        have bI := n7_
                        have aA := n8_
                        have aL := n9_
                        have HB := n10_
                        clear n0_ n1_ n2_ n3_ n4_ n5_ n6_ n7_ n8_ n9_ n10_
                        have hHeld : w29.cell? ⟨aB, 0, none⟩ = some (.int .i64 aS) ∧ w29.cell? ⟨aB, 1, none⟩ = some (.int .i64 aT) ∧ w29.cell? ⟨aB, 2, none⟩ = some (.slice bR aK.length bS) ∧ w29.cell? ⟨aB, 3, none⟩ = some (.int .i64 aU) ∧ w29.cell? ⟨aB, 4, none⟩ = some (.int .i64 aM) ∧ w29.cell? ⟨aB, 5, none⟩ = some (.int .i64 aN) ∧ w29.cell? ⟨aB, 6, none⟩ = some (.int .i64 aV) ∧ w29.cell? ⟨aB, 7, none⟩ = some (.int .i64 aW) ∧ w29.cell? ⟨aB, 8, none⟩ = some (.int .i64 aO) ∧ w29.cell? ⟨aB, 9, none⟩ = some (.slice bE aI.length bF) ∧ w29.cell? ⟨aB, 10, none⟩ = some (.slice bG aJ.length bH) ∧ w29.cell? ⟨aB, 11, none⟩ = some (.bool aX) ∧ w29.cell? (bJ.add ((aP).toNat * 2)) = some (.int .u8 ((rd_T71 l0 aP).f0)) ∧ w29.cell? ⟨(bJ.add ((aP).toNat * 2)).block, (bJ.add ((aP).toNat * 2)).off + 1, none⟩ = some (.int .u8 ((rd_T71 l0 aP).f1)) := hS_
                        obtain ⟨bT, bM, dT⟩ := Kd.V_slice a3.out
                        (first | subst dT | (injection dT with f1_ f2_ f3_; have f4_ := f1_.symm; have f5_ := f3_.symm; clear f1_ f2_ f3_; subst f4_; subst f5_))
                        obtain ⟨bN, bO, dU⟩ := Kd.R_slice a6.out
                        (first | subst dU | (injection dU with f1_ f2_ f3_; have f4_ := f1_.symm; have f5_ := f3_.symm; clear f1_ f2_ f3_; subst f4_; subst f5_))
                        obtain ⟨bP, bQ, dV⟩ := Kd.R_slice a7.out
                        (first | subst dV | (injection dV with f1_ f2_ f3_; have f4_ := f1_.symm; have f5_ := f3_.symm; clear f1_ f2_ f3_; subst f4_; subst f5_))
                        refine norm_ (a' := ?_) ?_ ?_
                        rotate_left
                        · simp only [putAll, Act.put, List.setIfInBounds_toArray, List.set_cons_zero, List.set_cons_succ]
                          rfl
                        refine one_ (i := 7) (N := none) (bs 8 255) rfl rfl (one_of HT_.out (by kernel_rfl)) (by decide) (fun K hK => ?_)
                        have hs30 : w29.cell? ⟨aF, 0, none⟩ = some (.int .i64 0) := (blk_cell aE.out 0).trans rfl
                        have hfs30 := blk_frozen aE.out 0
                        have hns30_0 := aA.out
                        have hms30_0 := aL.out
                        have hs31 : w29.cell? ⟨aF, 1, none⟩ = some (.int .i64 0) := (blk_cell aE.out 1).trans rfl
                        have hfs31 := blk_frozen aE.out 1
                        have hns31_0 := aA.out
                        have hms31_0 := aL.out
                        have hs33 : w29.cell? ⟨aF, 2, none⟩ = some (.slice none 0 0) := (blk_cell aE.out 2).trans rfl
                        have hfs33 := blk_frozen aE.out 2
                        have hns33_0 := aA.out
                        have hms33_0 := aL.out
                        have hs34 : w29.cell? ⟨aF, 3, none⟩ = some (.int .i64 0) := (blk_cell aE.out 3).trans rfl
                        have hfs34 := blk_frozen aE.out 3
                        have hns34_0 := aA.out
                        have hms34_0 := aL.out
                        have hs35 : w29.cell? ⟨aF, 4, none⟩ = some (.int .i64 0) := (blk_cell aE.out 4).trans rfl
                        have hfs35 := blk_frozen aE.out 4
                        have hns35_0 := aA.out
                        have hms35_0 := aL.out
                        have hs36 : w29.cell? ⟨aF, 5, none⟩ = some (.int .i64 0) := (blk_cell aE.out 5).trans rfl
                        have hfs36 := blk_frozen aE.out 5
                        have hns36_0 := aA.out
                        have hms36_0 := aL.out
                        have hs37 : w29.cell? ⟨aF, 6, none⟩ = some (.int .i64 0) := (blk_cell aE.out 6).trans rfl
                        have hfs37 := blk_frozen aE.out 6
                        have hns37_0 := aA.out
                        have hms37_0 := aL.out
                        have hs38 : w29.cell? ⟨aF, 7, none⟩ = some (.int .i64 0) := (blk_cell aE.out 7).trans rfl
                        have hfs38 := blk_frozen aE.out 7
                        have hns38_0 := aA.out
                        have hms38_0 := aL.out
                        have hs39 : w29.cell? ⟨aF, 8, none⟩ = some (.int .i64 0) := (blk_cell aE.out 8).trans rfl
                        have hfs39 := blk_frozen aE.out 8
                        have hns39_0 := aA.out
                        have hms39_0 := aL.out
                        have hs41 : w29.cell? ⟨aF, 9, none⟩ = some (.slice none 0 0) := (blk_cell aE.out 9).trans rfl
                        have hfs41 := blk_frozen aE.out 9
                        have hns41_0 := aA.out
                        have hms41_0 := aL.out
                        have hs43 : w29.cell? ⟨aF, 10, none⟩ = some (.slice none 0 0) := (blk_cell aE.out 10).trans rfl
                        have hfs43 := blk_frozen aE.out 10
                        have hns43_0 := aA.out
                        have hms43_0 := aL.out
                        have hs44 : w29.cell? ⟨aF, 11, none⟩ = some (.bool false) := (blk_cell aE.out 11).trans rfl
                        have hfs44 := blk_frozen aE.out 11
                        have hns44_0 := aA.out
                        have hms44_0 := aL.out
                        refine skip_ (w1 := ?_) (by rfl) rfl ?_ ?_
                        rotate_left
                        · go_simp
                          rfl
                        refine hK.out _ _ ⟨(cf12 aA.out hHeld.1), (cf12 aA.out hHeld.2.1), (cf12 aA.out hHeld.2.2.1), (cf12 aA.out hHeld.2.2.2.1), (cf12 aA.out hHeld.2.2.2.2.1), (cf12 aA.out hHeld.2.2.2.2.2.1), (cf12 aA.out hHeld.2.2.2.2.2.2.1), (cf12 aA.out hHeld.2.2.2.2.2.2.2.1), (cf12 aA.out hHeld.2.2.2.2.2.2.2.2.1), (cf12 aA.out hHeld.2.2.2.2.2.2.2.2.2.1), (cf12 aA.out hHeld.2.2.2.2.2.2.2.2.2.2.1), (cf12 aA.out hHeld.2.2.2.2.2.2.2.2.2.2.2.1), (cf12 (by first | exact Nat.ne_of_lt (Nat.lt_of_lt_of_le (by have := World.block_lt_of_cell? _ _ hw758_0; first | rwa [add_block] at this | exact this) bD.out) | (rw [add_block]; exact Nat.ne_of_lt (Nat.lt_of_lt_of_le (by have := World.block_lt_of_cell? _ _ hw758_0; first | rwa [add_block] at this | exact this) bD.out)) | (show (Addr.add _ _).block ≠ _; rw [add_block]; exact Nat.ne_of_lt (Nat.lt_of_lt_of_le (by have := World.block_lt_of_cell? _ _ hw758_0; first | rwa [add_block] at this | exact this) bD.out)) | (dsimp only; exact Nat.ne_of_lt (Nat.lt_of_lt_of_le (by have := World.block_lt_of_cell? _ _ hw758_0; first | rwa [add_block] at this | exact this) bD.out))) hHeld.2.2.2.2.2.2.2.2.2.2.2.2.1), (cf12 (by first | exact Nat.ne_of_lt (Nat.lt_of_lt_of_le (by have := World.block_lt_of_cell? _ _ hw758_1; first | rwa [add_block] at this | exact this) bD.out) | (rw [add_block]; exact Nat.ne_of_lt (Nat.lt_of_lt_of_le (by have := World.block_lt_of_cell? _ _ hw758_1; first | rwa [add_block] at this | exact this) bD.out)) | (show (Addr.add _ _).block ≠ _; rw [add_block]; exact Nat.ne_of_lt (Nat.lt_of_lt_of_le (by have := World.block_lt_of_cell? _ _ hw758_1; first | rwa [add_block] at this | exact this) bD.out)) | (dsimp only; exact Nat.ne_of_lt (Nat.lt_of_lt_of_le (by have := World.block_lt_of_cell? _ _ hw758_1; first | rwa [add_block] at this | exact this) bD.out))) hHeld.2.2.2.2.2.2.2.2.2.2.2.2.2)⟩ (fun hHeld => ?_)
                        clear hK K
                        refine done_ (done_of HT_.out (by kernel_rfl)) ?_
                        have hnb45 := aL.out
                        have hnc45 := aA.out
                        obtain ⟨eN, eO, eP, eQ, eR, eS, eT, eU, eV, eW, d3, d4⟩ := cz12 aE.out
                        obtain ⟨eX, eY, eZ, e0, e1, e2, e3, e4, e5, e6, d5, d6⟩ := fz12 aE.out
                        obtain ⟨e7, e8, e9, fA, fB, fC, fD, fE, fF, fG, d7, d8⟩ := cz12 aC.out
                        obtain ⟨fH, fI, fJ, fK, fL, fM, fN, fO, fP, fQ, d9, eA⟩ := fz12 aC.out
                        try go_wp2_with (first | (go_at_call 18; (with_reducible refine (commit_CheckSource.calls k1 a8 a9 _ _ aY bA aZ bW _ ?side1 ?side2 A19.out).mono ?_); (case side1 => refine (Kd.V_reads' (e := 3) (base := w.heap.size) (ok := fun k_ => (some k_ ≠ (.slice bN a4.length bO : Value).ownBlock ∧ (some k_ ≠ (.slice bP a5.length bQ : Value).ownBlock ∧ (k_ ≠ aB ∧ k_ ≠ aF)))) (n := aY.length) (c := bM) ?_).2.2; exact (mV (Kd.V_mono (vg12_0 aF (Kd.V_mono a3.out (fun k_ hk => (⟨hk, hk.2.2.2⟩ : _ ∧ k_ ≠ aF))) (fun _ hk => hk.2) (.int .i64 a8) (.int .i64 a9) (.slice bT aY.length bM) (.int .i64 bA) (.int .i64 aZ) (.int .i64 a1) (.int .i64 bB) (.int .i64 bC) (.int .i64 a2) (.slice bN a4.length bO) (.slice bP a5.length bQ) (.bool true)) (fun _ h_ => h_.1)))); (case side2 => exact (Kd.V_reads' a3.out).2.1); rintro e w48 ⟨rfl, hb⟩; replace aD := Aside0.mk (Kd.V_below (mV (Kd.V_mono (vg12_0 aF (Kd.V_mono aD.out (fun k_ hk => (⟨hk, hk.2.2.2⟩ : _ ∧ k_ ≠ aF))) (fun _ hk => hk.2) (.int .i64 a8) (.int .i64 a9) (.slice bT aY.length bM) (.int .i64 bA) (.int .i64 aZ) (.int .i64 a1) (.int .i64 bB) (.int .i64 bC) (.int .i64 a2) (.slice bN a4.length bO) (.slice bP a5.length bQ) (.bool true)) (fun _ h_ => h_.1))) hb); replace a3 := Aside0.mk (Kd.V_below (mV (Kd.V_mono (vg12_0 aF (Kd.V_mono a3.out (fun k_ hk => (⟨hk, hk.2.2.2⟩ : _ ∧ k_ ≠ aF))) (fun _ hk => hk.2) (.int .i64 a8) (.int .i64 a9) (.slice bT aY.length bM) (.int .i64 bA) (.int .i64 aZ) (.int .i64 a1) (.int .i64 bB) (.int .i64 bC) (.int .i64 a2) (.slice bN a4.length bO) (.slice bP a5.length bQ) (.bool true)) (fun _ h_ => h_.1))) hb); replace a6 := Aside0.mk (Kd.R_below (mR (Kd.R_mono (rg12_0 aF (Kd.R_types a6.out aE.out (by decide)) (fun _ hk => hk.2) (.int .i64 a8) (.int .i64 a9) (.slice bT aY.length bM) (.int .i64 bA) (.int .i64 aZ) (.int .i64 a1) (.int .i64 bB) (.int .i64 bC) (.int .i64 a2) (.slice bN a4.length bO) (.slice bP a5.length bQ) (.bool true)) (fun _ h_ => h_.1))) hb); replace a7 := Aside0.mk (Kd.R_below (mR (Kd.R_mono (rg12_0 aF (Kd.R_types a7.out aE.out (by decide)) (fun _ hk => hk.2) (.int .i64 a8) (.int .i64 a9) (.slice bT aY.length bM) (.int .i64 bA) (.int .i64 aZ) (.int .i64 a1) (.int .i64 bB) (.int .i64 bC) (.int .i64 a2) (.slice bN a4.length bO) (.slice bP a5.length bQ) (.bool true)) (fun _ h_ => h_.1))) hb); replace aC := Aside0.mk (blk_below (g := aB) (o := .cells #[.int .i64 aS, .int .i64 aT, .slice bR aK.length bS, .int .i64 aU, .int .i64 aM, .int .i64 aN, .int .i64 aV, .int .i64 aW, .int .i64 aO, .slice bE aI.length bF, .slice bG aJ.length bH, .bool aX] 67 (0, 0)) (by exact (mK (fr (fr (fr (fr (fr (fr (fr (fr (fr (fr (fr (fr aC.out aA.out) aA.out) aA.out) aA.out) aA.out) aA.out) aA.out) aA.out) aA.out) aA.out) aA.out) aA.out))) hb); replace aE := Aside0.mk (blk_below (g := aF) (o := .cells #[.int .i64 a8, .int .i64 a9, .slice bT aY.length bM, .int .i64 bA, .int .i64 aZ, .int .i64 a1, .int .i64 bB, .int .i64 bC, .int .i64 a2, .slice bN a4.length bO, .slice bP a5.length bQ, .bool true] 67 (0, 0)) (by exact (mK (pt12_0_12 aE.out))) hb); replace HB := Aside0.mk (below_step (by haveI := Ge.mk bI.out; exact kB HB.out) hb); (try clear hb); (try clear hb2); (try clear hk); (try clear hi); obtain ⟨fR, fS, fT, fU, fV, fW, fX, fY, fZ, f2, eB, eC⟩ := cz12 aE.out; obtain ⟨f3, f4, f5, f6, f7, f8, gA, gB, gC, gD, eD, eE⟩ := fz12 aE.out) | (go_at_call 20; (with_reducible refine (commit_CheckTarget.calls k1 a1 bB bC a2 bX _ A21.out).mono ?_); rintro e w50 ⟨rfl, hb⟩; replace aD := tV aD hb; replace a3 := tV a3 hb; replace a6 := tR a6 hb; replace a7 := tR a7 hb; replace aC := tK aC hb; replace aE := tK aE hb; replace HB := Aside0.mk (below_step (by haveI := Ge.mk bI.out; exact kB HB.out) hb); (try clear hb); (try clear hb2); (try clear hk); (try clear hi); obtain ⟨gE, gF, gG, gH, gI, gJ, gK, gL, gM, gN, eF, eG⟩ := cz12 aE.out; obtain ⟨gO, gP, gQ, gR, gS, gT, gU, gV, gW, gX, eH, eI⟩ := fz12 aE.out; obtain ⟨gY, g0, g1, g2, g3, g4, g5, g6, g7, g8, eJ, eK⟩ := cz12 aC.out; obtain ⟨g9, hA, hB, hC, hD, hE, hF, hG, hH, hI, eL, eM⟩ := fz12 aC.out))
                        go_roundg k1
                        case measure => have := HK1.out; omega
                        case rel => exact ⟨(wrap64 (aP + 1)), (a8), (a9), (aY), (bA), (aZ), (a1), (bB), (bC), (a2), (a4), (a5), (true), (.slice bT aY.length bM), (.slice bN a4.length bO), (.slice bP a5.length bQ), (by first | rfl | (simp; done) | (simp [*]; done)), H', ⟨by have := HK1.out; omega⟩, ⟨by refine mV ?_; exact Kd.V_mono (vg12_0 aB (Kd.V_mono a3.out (fun k_ hk => (⟨hk, hk.2.2.1⟩ : _ ∧ k_ ≠ aB))) (fun _ hk => hk.2) (.int .i64 a8) (.int .i64 a9) (.slice bT aY.length bM) (.int .i64 bA) (.int .i64 aZ) (.int .i64 a1) (.int .i64 bB) (.int .i64 bC) (.int .i64 a2) (.slice bN a4.length bO) (.slice bP a5.length bQ) (.bool true)) (fun _ hk => ⟨hk.1.1, ⟨hk.1.2.1, hk.1.2.2.1⟩⟩)⟩, ⟨by refine mR ?_; exact Kd.R_mono (rg12_0 aB (Kd.R_types a6.out aC.out (by decide)) (fun _ hk => hk.2) (.int .i64 a8) (.int .i64 a9) (.slice bT aY.length bM) (.int .i64 bA) (.int .i64 aZ) (.int .i64 a1) (.int .i64 bB) (.int .i64 bC) (.int .i64 a2) (.slice bN a4.length bO) (.slice bP a5.length bQ) (.bool true)) (fun _ hk => trivial)⟩, ⟨by refine mR ?_; exact Kd.R_mono (rg12_0 aB (Kd.R_types a7.out aC.out (by decide)) (fun _ hk => hk.2) (.int .i64 a8) (.int .i64 a9) (.slice bT aY.length bM) (.int .i64 bA) (.int .i64 aZ) (.int .i64 a1) (.int .i64 bB) (.int .i64 bC) (.int .i64 a2) (.slice bN a4.length bO) (.slice bP a5.length bQ) (.bool true)) (fun _ hk => trivial)⟩, ⟨by exact (mK (pt12_0_12 aC.out))⟩, ⟨by haveI := Ge.mk bI.out; exact kB HB.out⟩⟩
                      · rw [if_neg c22] at H
                        exact absurd H (by simp)
                    · rw [if_neg c20] at H
                      exact absurd H (by simp)
            · replace c15 := Bool.eq_false_iff.mpr c15
              subst c15
              have H1 : (none) = some r := by rw [if_neg (show ¬ (false = true) by decide)] at H; exact H
              clear H
              have H := H1
              clear H1
              exact absurd H (by simp)
          · rw [if_neg c13] at H
            exact absurd H (by simp)
        · rw [if_neg c12] at H
          have dW : decide (aP < (l0.length : Int)) = false := decide_eq_false c12
          clear c12
          replace H := Option.bind_eq_some_iff.mp H
          obtain ⟨cL, A530, H⟩ := H
          replace H : (some cL) = some r := H
          have A53 := Aside0.mk A530
          clear A530
          obtain rfl := Option.some.inj H
          go_wp2_with (first | ((with_reducible refine gate_callee (f := 12) rfl ?_); refine goesL_ (some 66) rfl rfl Try.func12 (by kernel_rfl) rfl #[] rfl (by (try simp only [List.map_toArray, List.map_cons, List.map_nil]); first | done | rfl | (simp only [List.length_drop, List.length_take]; rfl)) ?_; (with_reducible refine (standbylaw32_awake.calls k1  cL _ A53.out).mono ?_); rintro e w54 ⟨rfl, hb⟩; refine ⟨_, rfl, ?_⟩; replace aD := tV aD hb; replace aG := tR aG hb; replace aH := tR aH hb; replace aC := tK aC hb; replace HB := tB HB hb; (try clear hb); (try clear hb2); (try clear hk); (try clear hi)))
          go_ret
          exact ⟨by first | rfl | (simp [errW_none, errW_some] <;> rfl) | (simp [*, errW_none, errW_some] <;> rfl), (kB HB.out)⟩

end Go.Proofs.Ytedoloapddmanaa.PB
