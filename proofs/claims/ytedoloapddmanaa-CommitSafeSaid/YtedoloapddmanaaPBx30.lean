-- Written by a program of this session (wip/tools) over the kit's print.
import Derived.Test.YtedoloapddmanaaPBx0
import Derived.Test.YtedoloapddmanaaSh
import Derived.Test.YtedoloapddmanaaSh2
import Derived.Test.YtedoloapddmanaaPBx9
import Derived.Test.YtedoloapddmanaaPBx12
import Derived.Test.YtedoloapddmanaaPBx28
import Derived.Test.YtedoloapddmanaaPBx29
namespace Go.Proofs.Ytedoloapddmanaa.PB
open Go.RowKit Go.Proofs.YtedoloapddmanaaW.PrintWords Go.Proofs.YtedoloapddmanaaW.PrintLast Go.Proofs.YtedoloapddmanaaW.PrintMore
attribute [local go_sem] max2_int min2_int max_two min_two max_three min_three max_four min_four   -- for this text's walks alone
set_option linter.unusedVariables false
set_option linter.unusedSimpArgs false

/-! ### standbylaw32_CommitSafe: function 8 -/
mutual
def standbylaw32_CommitSafe.l0 : Nat → List (S71) → Int → Int → Int → List Int → Int → Int → Int → Int → Int → Int → List Int → List (S53) → Bool → Option (Bool)
  | 0, _, _, _, _, _, _, _, _, _, _, _, _, _, _ => none
  | k + 1, x0, x4, bK, bL, bM, bN, bO, bI, bP, bJ, bQ, bR, a7, bS => if x4 < (x0.length : Int) then (if 0 ≤ x4 then ((standbylaw32_step.f k bK bL bM bN bO bI bP bJ bQ bR a7 bS ((rd_T71 x0 x4).f0) ((rd_T71 x0 x4).f1)).bind fun aN => (if aN.2.2.2.2.2.2.2.2.2.2.2 = true then ((commit_Releasable.f k aN.1 aN.2.1 aN.2.2.1 aN.2.2.2.1 aN.2.2.2.2.1).bind fun cC => (if cC > aN.2.2.2.2.2.2.2.2.1 then (none) else (if aN.1 = aN.2.2.2.2.2.1 then (standbylaw32_CommitSafe.j1 k x0 x4 (a7.length : Int) (decide (aN.2.2.2.1 > aN.2.2.2.2.2.2.2.1)) aN.1 aN.2.1 aN.2.2.1 aN.2.2.2.1 aN.2.2.2.2.1 aN.2.2.2.2.2.1 aN.2.2.2.2.2.2.1 aN.2.2.2.2.2.2.2.1 aN.2.2.2.2.2.2.2.2.1 aN.2.2.2.2.2.2.2.2.2.1 aN.2.2.2.2.2.2.2.2.2.2.1 aN.2.2.2.2.2.2.2.2.2.2.2) else (standbylaw32_CommitSafe.j1 k x0 x4 (a7.length : Int) false aN.1 aN.2.1 aN.2.2.1 aN.2.2.2.1 aN.2.2.2.2.1 aN.2.2.2.2.2.1 aN.2.2.2.2.2.2.1 aN.2.2.2.2.2.2.2.1 aN.2.2.2.2.2.2.2.2.1 aN.2.2.2.2.2.2.2.2.2.1 aN.2.2.2.2.2.2.2.2.2.2.1 aN.2.2.2.2.2.2.2.2.2.2.2)))) else (none))) else (none)) else ((standbylaw32_awake.f k).bind fun dH => (some dH))
def standbylaw32_CommitSafe.j1 : Nat → List (S71) → Int → Int → Bool → Int → Int → List Int → Int → Int → Int → Int → Int → Int → List Int → List (S53) → Bool → Option (Bool)
  | 0, _, _, _, _, _, _, _, _, _, _, _, _, _, _, _, _ => none
  | k + 1, x0, x4, x5, x56, bK, bL, bM, bN, bO, bI, bP, bJ, bQ, bR, a7, bS => if x56 = true then (none) else (standbylaw32_CommitSafe.l1 k x0 x4 x5 bK bL bM bN bO bI bP bJ bQ bR a7 bS)
def standbylaw32_CommitSafe.l1 : Nat → List (S71) → Int → Int → Int → Int → List Int → Int → Int → Int → Int → Int → Int → List Int → List (S53) → Bool → Option (Bool)
  | 0, _, _, _, _, _, _, _, _, _, _, _, _, _, _, _ => none
  | k + 1, x0, x4, x6, bK, bL, bM, bN, bO, bI, bP, bJ, bQ, bR, a7, bS => if x6 < (a7.length : Int) then (if 0 ≤ x6 then (if ((rd_T53 a7 x6).f0) = 10 then (if ((rd_T53 a7 x6).f5) = bI then (if ((rd_T53 a7 x6).f3) > bJ then (none) else (standbylaw32_CommitSafe.l1 k x0 x4 (wrap64 (x6 + 1)) bK bL bM bN bO bI bP bJ bQ bR a7 bS)) else (standbylaw32_CommitSafe.l1 k x0 x4 (wrap64 (x6 + 1)) bK bL bM bN bO bI bP bJ bQ bR a7 bS)) else (standbylaw32_CommitSafe.l1 k x0 x4 (wrap64 (x6 + 1)) bK bL bM bN bO bI bP bJ bQ bR a7 bS)) else (none)) else (standbylaw32_CommitSafe.l0 k x0 (wrap64 (x4 + 1)) bK bL bM bN bO bI bP bJ bQ bR a7 bS)
end
def standbylaw32_CommitSafe.f (k : Nat) (l0 : List (S71)) : Option (Bool) := if (l0.length : Int) > 60 then ((standbylaw32_awake.f k).bind fun cH => (some cH)) else ((standbylaw32_begin.f).bind fun a2 => (standbylaw32_CommitSafe.l0 k l0 0 a2.1 a2.2.1 a2.2.2.1 a2.2.2.2.1 a2.2.2.2.2.1 a2.2.2.2.2.2.1 a2.2.2.2.2.2.2.1 a2.2.2.2.2.2.2.2.1 a2.2.2.2.2.2.2.2.2.1 a2.2.2.2.2.2.2.2.2.2.1 a2.2.2.2.2.2.2.2.2.2.2.1 a2.2.2.2.2.2.2.2.2.2.2.2))
theorem standbylaw32_CommitSafe.mono_l : ∀ k, (∀ y0 y1 y2 y3 y4 y5 y6 y7 y8 y9 y10 y11 y12 y13, LeO (standbylaw32_CommitSafe.l0 k y0 y1 y2 y3 y4 y5 y6 y7 y8 y9 y10 y11 y12 y13) (standbylaw32_CommitSafe.l0 (k + 1) y0 y1 y2 y3 y4 y5 y6 y7 y8 y9 y10 y11 y12 y13)) ∧ (∀ y0 y1 y2 y3 y4 y5 y6 y7 y8 y9 y10 y11 y12 y13 y14 y15, LeO (standbylaw32_CommitSafe.j1 k y0 y1 y2 y3 y4 y5 y6 y7 y8 y9 y10 y11 y12 y13 y14 y15) (standbylaw32_CommitSafe.j1 (k + 1) y0 y1 y2 y3 y4 y5 y6 y7 y8 y9 y10 y11 y12 y13 y14 y15)) ∧ (∀ y0 y1 y2 y3 y4 y5 y6 y7 y8 y9 y10 y11 y12 y13 y14, LeO (standbylaw32_CommitSafe.l1 k y0 y1 y2 y3 y4 y5 y6 y7 y8 y9 y10 y11 y12 y13 y14) (standbylaw32_CommitSafe.l1 (k + 1) y0 y1 y2 y3 y4 y5 y6 y7 y8 y9 y10 y11 y12 y13 y14))
  | 0 => ⟨fun _ _ _ _ _ _ _ _ _ _ _ _ _ _ r h => by simp [standbylaw32_CommitSafe.l0] at h, fun _ _ _ _ _ _ _ _ _ _ _ _ _ _ _ _ r h => by simp [standbylaw32_CommitSafe.j1] at h, fun _ _ _ _ _ _ _ _ _ _ _ _ _ _ _ r h => by simp [standbylaw32_CommitSafe.l1] at h⟩
  | k + 1 => by
    obtain ⟨ih0, ih1, ih2⟩ := standbylaw32_CommitSafe.mono_l k
    refine ⟨?_, ?_, ?_⟩
    · intro y0 y1 y2 y3 y4 y5 y6 y7 y8 y9 y10 y11 y12 y13
      unfold standbylaw32_CommitSafe.l0
      repeat' first
      | (with_reducible exact ih0 _ _ _ _ _ _ _ _ _ _ _ _ _ _)
      | (with_reducible exact ih1 _ _ _ _ _ _ _ _ _ _ _ _ _ _ _ _)
      | (with_reducible exact ih2 _ _ _ _ _ _ _ _ _ _ _ _ _ _ _)
      | (with_reducible exact commit_Releasable.mono _ _ _ _ _ _)
      | (with_reducible exact standbylaw32_awake.mono _)
      | (with_reducible exact standbylaw32_step.mono _ _ _ _ _ _ _ _ _ _ _ _ _ _ _)
      | (with_reducible exact LeO.refl _)
      | (with_reducible exact LeO.none _)
      | (with_reducible refine LeO.ite ?_ ?_)
      | (with_reducible refine LeO.bind ?_ (fun _ => ?_))
      | exact ih0 _ _ _ _ _ _ _ _ _ _ _ _ _ _
      | exact ih1 _ _ _ _ _ _ _ _ _ _ _ _ _ _ _ _
      | exact ih2 _ _ _ _ _ _ _ _ _ _ _ _ _ _ _
      | exact commit_Releasable.mono _ _ _ _ _ _
      | exact standbylaw32_awake.mono _
      | exact standbylaw32_step.mono _ _ _ _ _ _ _ _ _ _ _ _ _ _ _
      | exact LeO.none _
      | refine LeO.ite ?_ ?_
      | refine LeO.bind ?_ (fun _ => ?_)
    · intro y0 y1 y2 y3 y4 y5 y6 y7 y8 y9 y10 y11 y12 y13 y14 y15
      unfold standbylaw32_CommitSafe.j1
      repeat' first
      | (with_reducible exact ih0 _ _ _ _ _ _ _ _ _ _ _ _ _ _)
      | (with_reducible exact ih1 _ _ _ _ _ _ _ _ _ _ _ _ _ _ _ _)
      | (with_reducible exact ih2 _ _ _ _ _ _ _ _ _ _ _ _ _ _ _)
      | (with_reducible exact commit_Releasable.mono _ _ _ _ _ _)
      | (with_reducible exact standbylaw32_awake.mono _)
      | (with_reducible exact standbylaw32_step.mono _ _ _ _ _ _ _ _ _ _ _ _ _ _ _)
      | (with_reducible exact LeO.refl _)
      | (with_reducible exact LeO.none _)
      | (with_reducible refine LeO.ite ?_ ?_)
      | (with_reducible refine LeO.bind ?_ (fun _ => ?_))
      | exact ih0 _ _ _ _ _ _ _ _ _ _ _ _ _ _
      | exact ih1 _ _ _ _ _ _ _ _ _ _ _ _ _ _ _ _
      | exact ih2 _ _ _ _ _ _ _ _ _ _ _ _ _ _ _
      | exact commit_Releasable.mono _ _ _ _ _ _
      | exact standbylaw32_awake.mono _
      | exact standbylaw32_step.mono _ _ _ _ _ _ _ _ _ _ _ _ _ _ _
      | exact LeO.none _
      | refine LeO.ite ?_ ?_
      | refine LeO.bind ?_ (fun _ => ?_)
    · intro y0 y1 y2 y3 y4 y5 y6 y7 y8 y9 y10 y11 y12 y13 y14
      unfold standbylaw32_CommitSafe.l1
      repeat' first
      | (with_reducible exact ih0 _ _ _ _ _ _ _ _ _ _ _ _ _ _)
      | (with_reducible exact ih1 _ _ _ _ _ _ _ _ _ _ _ _ _ _ _ _)
      | (with_reducible exact ih2 _ _ _ _ _ _ _ _ _ _ _ _ _ _ _)
      | (with_reducible exact commit_Releasable.mono _ _ _ _ _ _)
      | (with_reducible exact standbylaw32_awake.mono _)
      | (with_reducible exact standbylaw32_step.mono _ _ _ _ _ _ _ _ _ _ _ _ _ _ _)
      | (with_reducible exact LeO.refl _)
      | (with_reducible exact LeO.none _)
      | (with_reducible refine LeO.ite ?_ ?_)
      | (with_reducible refine LeO.bind ?_ (fun _ => ?_))
      | exact ih0 _ _ _ _ _ _ _ _ _ _ _ _ _ _
      | exact ih1 _ _ _ _ _ _ _ _ _ _ _ _ _ _ _ _
      | exact ih2 _ _ _ _ _ _ _ _ _ _ _ _ _ _ _
      | exact commit_Releasable.mono _ _ _ _ _ _
      | exact standbylaw32_awake.mono _
      | exact standbylaw32_step.mono _ _ _ _ _ _ _ _ _ _ _ _ _ _ _
      | exact LeO.none _
      | refine LeO.ite ?_ ?_
      | refine LeO.bind ?_ (fun _ => ?_)
theorem standbylaw32_CommitSafe.mono : ∀ a0 k, LeO (standbylaw32_CommitSafe.f k a0) (standbylaw32_CommitSafe.f (k + 1) a0) := by
  intro a0 k
  obtain ⟨ih0, ih1, ih2⟩ := standbylaw32_CommitSafe.mono_l k
  unfold standbylaw32_CommitSafe.f
  repeat' first
      | (with_reducible exact ih0 _ _ _ _ _ _ _ _ _ _ _ _ _ _)
      | (with_reducible exact ih1 _ _ _ _ _ _ _ _ _ _ _ _ _ _ _ _)
      | (with_reducible exact ih2 _ _ _ _ _ _ _ _ _ _ _ _ _ _ _)
      | (with_reducible exact commit_Releasable.mono _ _ _ _ _ _)
      | (with_reducible exact standbylaw32_awake.mono _)
      | (with_reducible exact standbylaw32_step.mono _ _ _ _ _ _ _ _ _ _ _ _ _ _ _)
      | (with_reducible exact LeO.refl _)
      | (with_reducible exact LeO.none _)
      | (with_reducible refine LeO.ite ?_ ?_)
      | (with_reducible refine LeO.bind ?_ (fun _ => ?_))
      | exact ih0 _ _ _ _ _ _ _ _ _ _ _ _ _ _
      | exact ih1 _ _ _ _ _ _ _ _ _ _ _ _ _ _ _ _
      | exact ih2 _ _ _ _ _ _ _ _ _ _ _ _ _ _ _
      | exact commit_Releasable.mono _ _ _ _ _ _
      | exact standbylaw32_awake.mono _
      | exact standbylaw32_step.mono _ _ _ _ _ _ _ _ _ _ _ _ _ _ _
      | exact LeO.none _
      | refine LeO.ite ?_ ?_
      | refine LeO.bind ?_ (fun _ => ?_)
def standbylaw32_CommitSafe.T9 : Bool × List (List Nat × List Nat) := (true, [([], []), ([0], [0]), ([1], [1]), ([2], [2]), ([3], [3]), ([4, 3], [3, 4]), ([5, 3, 3], [3, 5]), ([3], [3]), ([7, 3], [3, 7]), ([8, 3], [3, 8]), ([6, 9, 3], [3, 6, 9]), ([3, 10], [3, 10]), ([11, 6], [11]), ([12], [12]), ([13, 12], [12, 13]), ([14, 12], [12, 14]), ([12], [12]), ([16, 12], [12, 16]), ([17, 12], [12, 17]), ([15, 18, 12], [12, 15, 18]), ([19, 12, 12], [12, 19]), ([20], [20]), ([21, 20], [20, 21]), ([22, 20], [20, 22]), ([20], [20]), ([24, 20], [20, 24]), ([25, 20], [20, 25]), ([23, 26, 20], [20, 23, 26]), ([20, 27, 12], [12, 20, 27]), ([12, 28], [12, 28])])
def standbylaw32_CommitSafe.B9 : List Nat := [0, 1, 3, 7, 15, 31, 63, 15, 143, 399, 1023, 2047, 4095, 8191, 16383, 32767, 8191, 73727, 204799, 524287, 1048575, 2097151, 4194303, 8388607, 2097151, 18874367, 52428799, 134217727, 268435455, 536870911]
theorem standbylaw32_CommitSafe.tab9 : rtab .any (opsOf Try.f8 9) = standbylaw32_CommitSafe.T9 := by kernel_rfl
theorem standbylaw32_CommitSafe.bits9 : waitsOk standbylaw32_CommitSafe.T9.2 standbylaw32_CommitSafe.B9 = true := by kernel_rfl
def standbylaw32_CommitSafe.T14 : Bool × List (List Nat × List Nat) := (true, [([], []), ([0], [0]), ([], []), ([1, 2], [1, 2]), ([3], [3]), ([4], [4]), ([5], [5]), ([6], [6]), ([7], [7]), ([8, 7], [7, 8]), ([7], [7]), ([9, 10, 7], [7, 9, 10]), ([11, 7], [7, 11]), ([12, 7], [7, 12]), ([7], [7]), ([14, 7], [7, 14]), ([15, 7], [7, 15]), ([13, 16, 7], [7, 13, 16]), ([7, 17], [7, 17]), ([18, 7], [18]), ([19], [19]), ([20, 19], [19, 20]), ([19], [19]), ([21, 22, 19], [19, 21, 22]), ([23, 19], [19, 23]), ([24, 19], [19, 24]), ([19], [19]), ([26, 19], [19, 26]), ([27, 19], [19, 27]), ([25, 28, 19], [19, 25, 28]), ([19, 29], [19, 29])])
def standbylaw32_CommitSafe.B14 : List Nat := [0, 1, 0, 7, 15, 31, 63, 127, 255, 511, 255, 2047, 4095, 8191, 255, 16639, 49407, 131071, 262143, 524287, 1048575, 2097151, 1048575, 8388607, 16777215, 33554431, 1048575, 68157439, 202375167, 536870911, 1073741823]
theorem standbylaw32_CommitSafe.tab14 : rtab .any (opsOf Try.f8 14) = standbylaw32_CommitSafe.T14 := by kernel_rfl
theorem standbylaw32_CommitSafe.bits14 : waitsOk standbylaw32_CommitSafe.T14.2 standbylaw32_CommitSafe.B14 = true := by kernel_rfl
set_option maxHeartbeats 8000000 in
set_option maxRecDepth 100000 in
theorem standbylaw32_CommitSafe.calls (k : Nat) (A0 : Option Addr) (c0 : Nat) (l0 : List (S71)) (r : Bool) (w : World) (hr0 : Kd.C k71 w A0 l0.length l0) (hc0 : l0.length ≤ c0) (h : standbylaw32_CommitSafe.f k l0 = some r) :
    Calls Try.prog 8 #[.slice A0 l0.length c0] w fun e w' => e = .returned (.bool r) ∧ Below w.heap.size w w' := by
  have hu67 := Try.underlying67
  have hu71 := Try.underlying71
  have hu24 := Try.underlying24
  have HR0 := Aside0.mk hr0
  have HC0 := Aside0.mk hc0
  clear hr0 hc0
  have HB := Aside0.mk (Below.refl w.heap.size w)
  have H : (if (l0.length : Int) > 60 then ((standbylaw32_awake.f k).bind fun cH => (some cH)) else ((standbylaw32_begin.f).bind fun a2 => (standbylaw32_CommitSafe.l0 k l0 0 a2.1 a2.2.1 a2.2.2.1 a2.2.2.2.1 a2.2.2.2.2.1 a2.2.2.2.2.2.1 a2.2.2.2.2.2.2.1 a2.2.2.2.2.2.2.2.1 a2.2.2.2.2.2.2.2.2.1 a2.2.2.2.2.2.2.2.2.2.1 a2.2.2.2.2.2.2.2.2.2.2.1 a2.2.2.2.2.2.2.2.2.2.2.2))) = some r := h
  clear h
  by_cases c2 : (l0.length : Int) > 60
  · rw [if_pos c2] at H
    have c2b0 : decide (60 < (l0.length : Int)) = true := decide_eq_true c2
    have c2b1 : decide (60 < l0.length) = true := decide_eq_true (by omega)
    clear c2
    replace H := Option.bind_eq_some_iff.mp H
    obtain ⟨cH, A30, H⟩ := H
    replace H : (some cH) = some r := H
    have A3 := Aside0.mk A30
    clear A30
    obtain rfl := Option.some.inj H
    go_enter Try.func8, Try.ntmps8
    go_wp2_with (first | ((with_reducible refine gate_callee (f := 12) rfl ?_); refine goesL_ (some 10) rfl rfl Try.func12 (by kernel_rfl) rfl #[] rfl (by (try simp only [List.map_toArray, List.map_cons, List.map_nil]); first | done | rfl | (simp only [List.length_drop, List.length_take]; rfl)) ?_; (with_reducible refine (standbylaw32_awake.calls k  cH _ A3.out).mono ?_); rintro e w4 ⟨rfl, hb⟩; refine ⟨_, rfl, ?_⟩; replace HB := tB HB hb; (try clear hb); (try clear hb2); (try clear hk); (try clear hi)))
    go_ret
    exact ⟨by first | rfl | (simp [errW_none, errW_some] <;> rfl) | (simp [*, errW_none, errW_some] <;> rfl), (kB HB.out)⟩
  · rw [if_neg c2] at H
    have c2b0 : decide (60 < (l0.length : Int)) = false := decide_eq_false c2
    have c2b1 : decide (60 < l0.length) = false := decide_eq_false (by omega)
    clear c2
    replace H := Option.bind_eq_some_iff.mp H
    obtain ⟨⟨cS, cT, cI, cU, cV, cW, cX, cY, cZ, cJ, cK, c5⟩, A50, H⟩ := H
    (try dsimp only at H)
    have A5 := Aside0.mk A50
    clear A50
    have H' := Aside0.mk H
    clear H
    go_enter Try.func8, Try.ntmps8
    go_wp2_with (first | ((with_reducible refine gate_callee (f := 37) rfl ?_); refine goesL_ (some 11) rfl rfl Try.func37 (by kernel_rfl) rfl #[] rfl (by (try simp only [List.map_toArray, List.map_cons, List.map_nil]); first | done | rfl | (simp only [List.length_drop, List.length_take]; rfl)) ?_; (with_reducible refine (standbylaw32_begin.calls  cS cT cI cU cV cW cX cY cZ cJ cK c5 _ A5.out).mono ?_); rintro e w6 ⟨v697, v706, v709, rfl, ho0, ho1, ho2, hb⟩; refine ⟨_, rfl, ?_⟩; have cQ := Aside0.mk (Kd.R_lower ho0 (kZ HB.out)); have cR := Aside0.mk (Kd.R_lower ho1 (kZ HB.out)); have cF := Aside0.mk (Kd.R_lower ho2 (kZ HB.out)); replace HB := tB HB hb; (try clear hb); (try clear hb2); (try clear hk); (try clear hi); (try clear ho0); (try clear ho1); (try clear ho2)) | ((with_reducible refine gate_dst (N := 3) rfl ?_); refine box_event ?hg (N := 3) ?hd (cs := #[.int .i64 0, .int .i64 0, .slice none 0 0, .int .i64 0, .int .i64 0, .int .i64 0, .int .i64 0, .int .i64 0, .int .i64 0, .slice none 0 0, .slice none 0 0, .bool false]) (t := 67) ?hr ?_; (case hd => rfl); (case hg => rfl); (case hr => first | (go_simp; done) | (go_simp; rfl)); intro aA hg w7 hbox hb; replace cQ := tR cQ hb; replace cR := tR cR hb; replace cF := tR cF hb; have aB := Aside0.mk (hbox); have GW712 := gZ HB hg; have eM := gZ HB hg; replace HB := tB HB hb; clear hb hbox hg; obtain ⟨dV, dW, dX, dY, dZ, d0, d1, d2, d3, d4, dR, dS⟩ := cz12 aB.out; obtain ⟨d5, d6, d7, d8, d9, eA, eB, eC, eD, eE, dT, dU⟩ := fz12 aB.out; obtain ⟨Ao9, co9, eo9⟩ := Kd.R_slice cQ.out; subst eo9; obtain ⟨dI, dJ, eU⟩ := Kd.R_slice cR.out; subst eU; obtain ⟨dK, dL, eV⟩ := Kd.R_slice cF.out; subst eV))
    go_loopg [4] k (fun kq v4 w' => ∃ (a5 : Int) (a9 : Int) (bA : Int) (a6 : List Int) (bB : Int) (bC : Int) (bD : Int) (bE : Int) (bF : Int) (bG : Int) (a8 : List Int) (aZ : List (S53)) (bH : Bool) (cL : Value) (cD : Value) (cE : Value), v4 = .int .i64 a5 ∧ Aside0 (standbylaw32_CommitSafe.l0 kq l0 a5 a9 bA a6 bB bC bD bE bF bG a8 aZ bH = some r) ∧ Aside0 (kq ≤ k) ∧ Aside0 (Kd.V (Kd.int .i64) 3 w' w.heap.size (fun k_ => some k_ ≠ (cD : Value).ownBlock ∧ some k_ ≠ (cE : Value).ownBlock ∧ k_ ≠ aA) cL a6) ∧ Aside0 (Kd.R (Kd.int .i64) 3 w' w.heap.size (fun _ => True) cD a8) ∧ Aside0 (Kd.R k53 53 w' w.heap.size (fun _ => True) cE aZ) ∧ Aside0 (w'.heap[aA]? = some (.cells #[.int .i64 a9, .int .i64 bA, cL, .int .i64 bB, .int .i64 bC, .int .i64 bD, .int .i64 bE, .int .i64 bF, .int .i64 bG, cD, cE, .bool bH] 67 (0, 0))) ∧ Aside0 (Below w.heap.size w w'))
    case atStart => exact ⟨(0), (cS), (cT), (cI), (cU), (cV), (cW), (cX), (cY), (cZ), (cJ), (cK), (c5), (.slice Ao9 cI.length co9), (.slice dI cJ.length dJ), (.slice dK cK.length dL), (by first | rfl | (simp; done) | (simp [*]; done)), H', ⟨Nat.le_refl _⟩, ⟨Kd.R_V (mR (Kd.R_mono (rf12 aA 0 (Kd.R_types (Kd.R_types (Kd.R_apart' cQ.out (Kd.R_typed cF.out) (by decide)) aB.out (by decide)) aB.out (by decide)) (fun _ hk => hk.2) (.int .i64 cS) (.int .i64 cT) (.slice Ao9 cI.length co9) (.int .i64 cU) (.int .i64 cV) (.int .i64 cW) (.int .i64 cX) (.int .i64 cY) (.int .i64 cZ) (.slice dI cJ.length dJ) (.slice dK cK.length dL) (.bool c5)) (fun _ hk => ⟨hk.1.1.1, ⟨hk.1.1.2, hk.1.2⟩⟩)))⟩, ⟨by refine mR ?_; exact Kd.R_mono (rf12 aA 0 (Kd.R_types cR.out aB.out (by decide)) (fun _ hk => hk.2) (.int .i64 cS) (.int .i64 cT) (.slice Ao9 cI.length co9) (.int .i64 cU) (.int .i64 cV) (.int .i64 cW) (.int .i64 cX) (.int .i64 cY) (.int .i64 cZ) (.slice dI cJ.length dJ) (.slice dK cK.length dL) (.bool c5)) (fun _ hk => trivial)⟩, ⟨by refine mR ?_; exact Kd.R_mono (rf12 aA 0 (Kd.R_types cF.out aB.out (by decide)) (fun _ hk => hk.2) (.int .i64 cS) (.int .i64 cT) (.slice Ao9 cI.length co9) (.int .i64 cU) (.int .i64 cV) (.int .i64 cW) (.int .i64 cX) (.int .i64 cY) (.int .i64 cZ) (.slice dI cJ.length dJ) (.slice dK cK.length dL) (.bool c5)) (fun _ hk => trivial)⟩, ⟨by exact (mK (pt12_0_12 aB.out))⟩, ⟨kB HB.out⟩⟩
    case round =>
      clear H'
      try clear c1
      try clear c2
      try clear c2b0
      try clear c2b1
      try clear p2
      try clear c3
      try clear c8
      try clear dV dW dR dS dX dY dZ d0 d1 d2 d3 d4
      try clear d5 d6 dT dU d7 d8 d9 eA eB eC eD eE
      obtain ⟨a5, a9, bA, a6, bB, bC, bD, bE, bF, bG, a8, aZ, bH, cL, cD, cE, rfl, HA, HK1, aE, aH, aG, aB, HB⟩ := hrel
      cases gk with
      | zero => exact absurd HA.out (by simp [standbylaw32_CommitSafe.l0])
      | succ k1 =>
        have H := HA.out
        clear HA
        simp only [standbylaw32_CommitSafe.l0] at H
        by_cases c12 : a5 < (l0.length : Int)
        · rw [if_pos c12] at H
          have eN : decide (a5 < (l0.length : Int)) = true := decide_eq_true c12
          clear c12
          by_cases c13 : 0 ≤ a5
          · rw [if_pos c13] at H
            have c13b0 : decide (0 ≤ a5) = true := decide_eq_true c13
            clear c13
            replace H := Option.bind_eq_some_iff.mp H
            obtain ⟨⟨aK, aO, aJ, aM, aP, aL, aW, aQ, aU, aI, aF, b1⟩, A140, H⟩ := H
            (try dsimp only at H)
            have A14 := Aside0.mk A140
            clear A140
            have HC15 := Aside0.mk H
            clear H
            obtain ⟨fH, fI, fJ, fK, fL, fM, fN, fO, fP, fQ, eW, eX⟩ := cz12 aB.out
            obtain ⟨fR, fS, fT, fU, fV, fW, fX, fY, fZ, f6, eY, eZ⟩ := fz12 aB.out
            obtain ⟨cM, cN, e0⟩ := Kd.R_slice aG.out
            subst e0
            try go_wp2
            have n0_ := Aside0.mk (Kd.V_drew aE.out)
            have n1_ := Aside0.mk (Kd.R_drew aH.out)
            have n2_ := Aside0.mk (Kd.R_drew aG.out)
            have n3_ := Aside0.mk (blk_drew aB.out)
            have n4_ := Aside0.mk (below_drew1 HB.out)
            clear aE
            clear aH
            clear aG
            clear aB
            clear HB
            have aE := n0_
            have aH := n1_
            have aG := n2_
            have aB := n3_
            have HB := n4_
            clear n0_ n1_ n2_ n3_ n4_
            have p714 : 0 ≤ (a5 : Int) := of_decide_eq_true (by first | (with_reducible assumption) | assumption)
            have q714 : a5 < (l0.length : Int) := of_decide_eq_true (by first | (with_reducible assumption) | assumption)
            obtain ⟨dM, e714, b2, b3⟩ := at_T71 HR0.out a5 p714 q714
            have hw714_1 := b3
            have hw714_0 := b2
            cases e714
            replace b2 := (HB.out.cell (World.block_lt_of_cell? w _ b2)).trans b2
            replace b3 := (HB.out.cell (World.block_lt_of_cell? w _ b3)).trans b3
            replace p714 := eq_true p714
            replace q714 := eq_true q714
            obtain ⟨c6, c7, eF⟩ := Kd.V_slice aE.out
            (first | subst eF | (injection eF with f1_ f2_ f3_; have f4_ := f1_.symm; have f5_ := f3_.symm; clear f1_ f2_ f3_; subst f4_; subst f5_))
            obtain ⟨cO, cP, eG⟩ := Kd.R_slice aH.out
            (first | subst eG | (injection eG with f1_ f2_ f3_; have f4_ := f1_.symm; have f5_ := f3_.symm; clear f1_ f2_ f3_; subst f4_; subst f5_))
            refine start_ (n := 7) (S := fun w' => w'.cell? ⟨aA, 0, none⟩ = some (.int .i64 a9) ∧ w'.cell? ⟨aA, 1, none⟩ = some (.int .i64 bA) ∧ w'.cell? ⟨aA, 2, none⟩ = some (.slice c6 a6.length c7) ∧ w'.cell? ⟨aA, 3, none⟩ = some (.int .i64 bB) ∧ w'.cell? ⟨aA, 4, none⟩ = some (.int .i64 bC) ∧ w'.cell? ⟨aA, 5, none⟩ = some (.int .i64 bD) ∧ w'.cell? ⟨aA, 6, none⟩ = some (.int .i64 bE) ∧ w'.cell? ⟨aA, 7, none⟩ = some (.int .i64 bF) ∧ w'.cell? ⟨aA, 8, none⟩ = some (.int .i64 bG) ∧ w'.cell? ⟨aA, 9, none⟩ = some (.slice cO a8.length cP) ∧ w'.cell? ⟨aA, 10, none⟩ = some (.slice cM aZ.length cN) ∧ w'.cell? ⟨aA, 11, none⟩ = some (.bool bH) ∧ w'.cell? (dM.add ((a5).toNat * 2)) = some (.int .u8 ((rd_T71 l0 a5).f0)) ∧ w'.cell? ⟨(dM.add ((a5).toNat * 2)).block, (dM.add ((a5).toNat * 2)).off + 1, none⟩ = some (.int .u8 ((rd_T71 l0 a5).f1))) (ds := [6]) #[false, false, false, false, false, false, false] (by kernel_rfl) rfl rfl (ct12 aB.out ⟨((HB.out.cell (World.block_lt_of_cell? w _ hw714_0)).trans hw714_0), ((HB.out.cell (World.block_lt_of_cell? w _ hw714_1)).trans hw714_1)⟩) (fun hHeld => ?_)
            generalize wr.drew = w18 at aE aH aG aB HB b2 b3 hHeld ⊢
            refine pure_ (i := 1) (N := some 22) (v := ?_) (a' := ?_) (bs 7 2) rfl rfl (by kernel_rfl) (fun _ _ _ h => h) (Or.inl ⟨by rfl, ?_⟩) ?_ ?_
            rotate_left
            · intro w'
              go_simp
              with_reducible rfl
            rotate_left
            · simp only [Act.put, sA, sB, sC, i64_w, i32_w]
              rfl
            refine pure_ (i := 2) (N := some 23) (v := ?_) (a' := ?_) (bs 7 6) rfl rfl (by kernel_rfl) (fun _ _ _ h => h) (Or.inl ⟨by rfl, ?_⟩) ?_ ?_
            rotate_left
            · intro w'
              go_simp
              with_reducible rfl
            rotate_left
            · simp only [Act.put, sA, sB, sC, i64_w, i32_w]
              rfl
            refine pure_ (i := 3) (N := some 24) (v := ?_) (a' := ?_) (bs 7 14) rfl rfl (by kernel_rfl) (fun _ _ _ h => h) (Or.inl ⟨by rfl, ?_⟩) ?_ ?_
            rotate_left
            · intro w'
              go_simp
              with_reducible rfl
            rotate_left
            · simp only [Act.put, sA, sB, sC, i64_w, i32_w]
              rfl
            refine take_ (i := 0) (N := some 21) (v := ?_) (a' := ?_) (bs 7 15) rfl rfl (by kernel_rfl) (fun _ _ _ h => h) (Or.inl ⟨by rfl, ?_⟩) hHeld ?_ ?_
            rotate_left
            · rintro w' ⟨s0, s1, s2, s3, s4, s5, s6, s7, s8, s9, s10, s11, s12, s13⟩
              go_simp
              with_reducible rfl
            rotate_left
            · simp only [Act.put, sA, sB, sC, i64_w, i32_w]
              rfl
            refine take_ (i := 4) (N := some 25) (v := ?_) (a' := ?_) (bs 7 31) rfl rfl (by kernel_rfl) (fun _ _ _ h => h) (Or.inl ⟨by rfl, ?_⟩) hHeld ?_ ?_
            rotate_left
            · rintro w' ⟨s0, s1, s2, s3, s4, s5, s6, s7, s8, s9, s10, s11, s12, s13⟩
              go_simp
              with_reducible rfl
            rotate_left
            · simp only [Act.put, sA, sB, sC, i64_w, i32_w]
              rfl
            refine one_ (i := 5) (N := some 26) (bs 7 63) rfl rfl (by kernel_rfl) (by decide) (fun K hK => ?_)
            refine goes_ Try.func38 (by kernel_rfl) rfl #[.agg #[.int .i64 a9, .int .i64 bA, .slice c6 a6.length c7, .int .i64 bB, .int .i64 bC, .int .i64 bD, .int .i64 bE, .int .i64 bF, .int .i64 bG, .slice cO a8.length cP, .slice cM aZ.length cN, .bool bH], .agg #[.int .u8 ((rd_T71 l0 a5).f0), .int .u8 ((rd_T71 l0 a5).f1)]] (by rfl) rfl rfl (by (try simp only [List.map_toArray, List.map_cons, List.map_nil]); first | done | rfl | (simp only [List.length_drop, List.length_take]; rfl)) ?_
            with_reducible refine (standbylaw32_step.calls k1 a9 bA (fun k_ => (some k_ ≠ (.slice cO a8.length cP : Value).ownBlock ∧ (some k_ ≠ (.slice cM aZ.length cN : Value).ownBlock ∧ k_ ≠ aA))) _ _ a6 bB bC bD bE bF bG (fun k_ => some k_ = (.slice cO a8.length cP : Value).ownBlock) (.slice cO a8.length cP) a8 (fun k_ => some k_ = (.slice cM aZ.length cN : Value).ownBlock) (.slice cM aZ.length cN) aZ bH ((rd_T71 l0 a5).f0) ((rd_T71 l0 a5).f1) aK aO aJ aM aP aL aW aQ aU aI aF b1 w _ ?side1 ?side2 ?side3 ?side4 A14.out).mono ?_
            (case side1 => repeat (first | (with_reducible first | exact HB.out | apply below_alloc | apply pw_below_drewN | apply below_drew1 | refine below_set ?_ eM.out) | exact HB.out))
            (case side2 => exact Kd.V_mono (aE.out) (fun k_ hk_ => ⟨hk_, hk_.1, hk_.2.1⟩))
            (case side3 => exact Kd.R_tight rfl aH.out)
            (case side4 => exact Kd.R_tight rfl aG.out)
            rintro e w21 ⟨v718, eH, eI, rfl, ho0, ho1, ho2, hb, hkp⟩
            refine ⟨_, rfl, ?_⟩
            have n0_ := Aside0.mk (Kd.V_mono (ok' := fun k_ => k_ ≠ aA ∧ some k_ ≠ (eH : Value).ownBlock ∧ some k_ ≠ (eI : Value).ownBlock) (Kd.V_keptB (aE.out) hkp (fun k_ hk_ hs_ => Or.elim hs_ (fun e_ => (hk_.1) e_) (fun e_ => (hk_.2.1) e_))) (fun k_ hk_ => ⟨hk_.1.2.2, fun e_ => Or.elim (ho1.1 k_ e_.symm) (fun hs_ => hk_.2.1 hs_) (fun hn_ => Nat.not_le.2 hk_.2.2 hn_), fun e_ => Or.elim (ho2.1 k_ e_.symm) (fun hs_ => hk_.2.1 hs_) (fun hn_ => Nat.not_le.2 hk_.2.2 hn_)⟩))
            have n1_ := Aside0.mk (blk_kept (mK aB.out) hkp (fun hs_ => Or.elim hs_ (fun e_ => (fun e_ => (Kd.R_ne aH.out aB.out (by decide)) e_) e_) (fun e_ => (fun e_ => (Kd.R_ne aG.out aB.out (by decide)) e_) e_)))
            have n2_ := Aside0.mk (Kd.V_mono (ok' := fun k_ => some k_ ≠ (eH : Value).ownBlock ∧ some k_ ≠ (eI : Value).ownBlock ∧ k_ ≠ aA) ho0 (fun k_ hk_ => ⟨hk_.2.1, hk_.2.2, Or.elim hk_.1 (fun hs_ => Or.elim hs_ (fun hs_ => fun e_ => (Kd.R_ne aH.out aB.out (by decide)) (by rw [← e_]; exact hs_)) (fun hs_ => Or.elim hs_ (fun hs_ => fun e_ => (Kd.R_ne aG.out aB.out (by decide)) (by rw [← e_]; exact hs_)) (fun hs_ => hs_.2.2))) (fun hn_ => (Kd.freshB (mK aB.out) k_ hn_))⟩))
            have n3_ := Aside0.mk (Kd.R_mono (ok' := fun k_ => True) ho1 (fun k_ hk_ => trivial))
            have n4_ := Aside0.mk (Kd.R_mono (ok' := fun k_ => True) ho2 (fun k_ hk_ => trivial))
            have n5_ := Aside0.mk (hb)
            clear aE
            clear aB
            clear HB
            clear aH
            clear aG
            have aE := n0_
            have aB := n1_
            have a1 := n2_
            have a3 := n3_
            have a4 := n4_
            have HB := n5_
            clear n0_ n1_ n2_ n3_ n4_ n5_
            (try clear hb)
            (try clear hkp)
            (try clear ho0)
            (try clear ho1)
            (try clear ho2)
            obtain ⟨aX, aY, eJ⟩ := Kd.V_slice a1.out
            (first | subst eJ | (injection eJ with f1_ f2_ f3_; have f4_ := f1_.symm; have f5_ := f3_.symm; clear f1_ f2_ f3_; subst f4_; subst f5_))
            obtain ⟨aR, aS, eK⟩ := Kd.R_slice a3.out
            (first | subst eK | (injection eK with f1_ f2_ f3_; have f4_ := f1_.symm; have f5_ := f3_.symm; clear f1_ f2_ f3_; subst f4_; subst f5_))
            obtain ⟨aV, aT, eL⟩ := Kd.R_slice a4.out
            (first | subst eL | (injection eL with f1_ f2_ f3_; have f4_ := f1_.symm; have f5_ := f3_.symm; clear f1_ f2_ f3_; subst f4_; subst f5_))
            refine hK.out _ _ (ct12 aB.out ⟨((HB.out.cell (World.block_lt_of_cell? w _ hw714_0)).trans hw714_0), ((HB.out.cell (World.block_lt_of_cell? w _ hw714_1)).trans hw714_1)⟩) (fun hHeld => ?_)
            clear hK K
            refine norm_ (a' := ?_) ?_ ?_
            rotate_left
            · show Act.put _ (some 26) _ = _
              simp only [Act.put, sA, sB, sC, i64_w, i32_w]
              rfl
            refine last_ (i := 6) (N := none) (bs 7 127) rfl rfl (by kernel_rfl) (by decide) (fun K hK => ?_)
            have hs22 : w21.cell? ⟨aA, 0, none⟩ = some (.int .i64 a9) := (blk_cell aB.out 0).trans rfl
            have hfs22 := blk_frozen aB.out 0
            have hs23 : w21.cell? ⟨aA, 1, none⟩ = some (.int .i64 bA) := (blk_cell aB.out 1).trans rfl
            have hfs23 := blk_frozen aB.out 1
            have hs25 : w21.cell? ⟨aA, 2, none⟩ = some (.slice c6 a6.length c7) := (blk_cell aB.out 2).trans rfl
            have hfs25 := blk_frozen aB.out 2
            have hs26 : w21.cell? ⟨aA, 3, none⟩ = some (.int .i64 bB) := (blk_cell aB.out 3).trans rfl
            have hfs26 := blk_frozen aB.out 3
            have hs27 : w21.cell? ⟨aA, 4, none⟩ = some (.int .i64 bC) := (blk_cell aB.out 4).trans rfl
            have hfs27 := blk_frozen aB.out 4
            have hs28 : w21.cell? ⟨aA, 5, none⟩ = some (.int .i64 bD) := (blk_cell aB.out 5).trans rfl
            have hfs28 := blk_frozen aB.out 5
            have hs29 : w21.cell? ⟨aA, 6, none⟩ = some (.int .i64 bE) := (blk_cell aB.out 6).trans rfl
            have hfs29 := blk_frozen aB.out 6
            have hs30 : w21.cell? ⟨aA, 7, none⟩ = some (.int .i64 bF) := (blk_cell aB.out 7).trans rfl
            have hfs30 := blk_frozen aB.out 7
            have hs31 : w21.cell? ⟨aA, 8, none⟩ = some (.int .i64 bG) := (blk_cell aB.out 8).trans rfl
            have hfs31 := blk_frozen aB.out 8
            have hs33 : w21.cell? ⟨aA, 9, none⟩ = some (.slice cO a8.length cP) := (blk_cell aB.out 9).trans rfl
            have hfs33 := blk_frozen aB.out 9
            have hs35 : w21.cell? ⟨aA, 10, none⟩ = some (.slice cM aZ.length cN) := (blk_cell aB.out 10).trans rfl
            have hfs35 := blk_frozen aB.out 10
            have hs36 : w21.cell? ⟨aA, 11, none⟩ = some (.bool bH) := (blk_cell aB.out 11).trans rfl
            have hfs36 := blk_frozen aB.out 11
            refine skip_ (w1 := ?_) (by rfl) rfl ?_ ?_
            rotate_left
            · go_simp
              rfl
            refine hK.out _ _ ?_
            clear hK K
            refine done_ (by kernel_rfl) ?_
            go_upto_region 9 with (fail)
            go_cut [56] (fun v56 wc => ∃ (kq : Nat) (cG : Bool), v56 = .bool cG ∧ Aside0 (standbylaw32_CommitSafe.j1 kq l0 a5 (aZ.length : Int) cG aK aO aJ aM aP aL aW aQ aU aI aF b1 = some r) ∧ Aside0 (kq ≤ k1) ∧ Aside0 (Kd.V (Kd.int .i64) 3 wc w.heap.size (fun k_ => some k_ ≠ ((.slice aR aI.length aS) : Value).ownBlock ∧ some k_ ≠ ((.slice aV aF.length aT) : Value).ownBlock ∧ k_ ≠ aA) (.slice aX aJ.length aY) aJ) ∧ Aside0 (Kd.R (Kd.int .i64) 3 wc w.heap.size (fun _ => True) (.slice aR aI.length aS) aI) ∧ Aside0 (Kd.R k53 53 wc w.heap.size (fun _ => True) (.slice aV aF.length aT) aF) ∧ Aside0 (wc.heap[aA]? = some (.cells #[.int .i64 aK, .int .i64 aO, (.slice aX aJ.length aY), .int .i64 aM, .int .i64 aP, .int .i64 aL, .int .i64 aW, .int .i64 aQ, .int .i64 aU, (.slice aR aI.length aS), (.slice aV aF.length aT), .bool b1] 67 (0, 0))) ∧ Aside0 (Below w.heap.size w wc))
            case first =>
              have H := HC15.out
              clear HC15
              by_cases c37 : b1 = true
              · subst c37
                have H1 : ((commit_Releasable.f k1 aK aO aJ aM aP).bind fun cC => (if cC > aU then (none) else (if aK = aL then (standbylaw32_CommitSafe.j1 k1 l0 a5 (aZ.length : Int) (decide (aM > aQ)) aK aO aJ aM aP aL aW aQ aU aI aF true) else (standbylaw32_CommitSafe.j1 k1 l0 a5 (aZ.length : Int) false aK aO aJ aM aP aL aW aQ aU aI aF true)))) = some r := by rw [if_pos rfl] at H; exact H
                clear H
                have H := H1
                clear H1
                replace H := Option.bind_eq_some_iff.mp H
                obtain ⟨cC, A380, H⟩ := H
                (try dsimp only at H)
                have A38 := Aside0.mk A380
                clear A380
                by_cases c39 : cC > aU
                · rw [if_pos c39] at H
                  exact absurd H (by simp)
                · rw [if_neg c39] at H
                  have dQ : decide (aU < cC) = false := decide_eq_false c39
                  clear c39
                  (first | rw [dQ] | (simp only [i64_w, i32_w]; rw [dQ]) | skip)
                  by_cases c40 : aK = aL
                  · rw [if_pos c40] at H
                    have dN : (aK == aL) = true := beq_iff_eq.mpr c40
                    have dO : (aK != aL) = false := bne_eq_false_iff_eq.mpr c40
                    clear c40
                    have H' := Aside0.mk H
                    clear H
                    try go_wp2
                    have n0_ : Aside0 (Kd.V (Kd.int .i64) 3 ((((((((((((w21.setCell ⟨aA, 0, none⟩ (.int .i64 aK)).setCell ⟨aA, 1, none⟩ (.int .i64 aO)).setCell ⟨aA, 2, none⟩ (.slice aX aJ.length aY)).setCell ⟨aA, 3, none⟩ (.int .i64 aM)).setCell ⟨aA, 4, none⟩ (.int .i64 aP)).setCell ⟨aA, 5, none⟩ (.int .i64 aL)).setCell ⟨aA, 6, none⟩ (.int .i64 aW)).setCell ⟨aA, 7, none⟩ (.int .i64 aQ)).setCell ⟨aA, 8, none⟩ (.int .i64 aU)).setCell ⟨aA, 9, none⟩ (.slice aR aI.length aS)).setCell ⟨aA, 10, none⟩ (.slice aV aF.length aT)).setCell ⟨aA, 11, none⟩ (.bool true)) w.heap.size (fun k_ => some k_ ≠ (.slice aR aI.length aS : Value).ownBlock ∧ some k_ ≠ (.slice aV aF.length aT : Value).ownBlock ∧ k_ ≠ aA) (.slice c6 a6.length c7) a6) := ⟨by refine mV ?_; exact Kd.V_mono (vf12 aA 0 (Kd.V_mono aE.out (fun k_ hk => (⟨hk, hk.1⟩ : _ ∧ k_ ≠ aA))) (fun _ hk => hk.2) (.int .i64 aK) (.int .i64 aO) (.slice aX aJ.length aY) (.int .i64 aM) (.int .i64 aP) (.int .i64 aL) (.int .i64 aW) (.int .i64 aQ) (.int .i64 aU) (.slice aR aI.length aS) (.slice aV aF.length aT) (.bool true)) (fun _ hk => ⟨hk.1.2.1, ⟨hk.1.2.2, hk.1.1⟩⟩)⟩
                    have n1_ : Aside0 (Kd.V (Kd.int .i64) 3 ((((((((((((w21.setCell ⟨aA, 0, none⟩ (.int .i64 aK)).setCell ⟨aA, 1, none⟩ (.int .i64 aO)).setCell ⟨aA, 2, none⟩ (.slice aX aJ.length aY)).setCell ⟨aA, 3, none⟩ (.int .i64 aM)).setCell ⟨aA, 4, none⟩ (.int .i64 aP)).setCell ⟨aA, 5, none⟩ (.int .i64 aL)).setCell ⟨aA, 6, none⟩ (.int .i64 aW)).setCell ⟨aA, 7, none⟩ (.int .i64 aQ)).setCell ⟨aA, 8, none⟩ (.int .i64 aU)).setCell ⟨aA, 9, none⟩ (.slice aR aI.length aS)).setCell ⟨aA, 10, none⟩ (.slice aV aF.length aT)).setCell ⟨aA, 11, none⟩ (.bool true)) w.heap.size (fun k_ => some k_ ≠ (.slice aR aI.length aS : Value).ownBlock ∧ some k_ ≠ (.slice aV aF.length aT : Value).ownBlock ∧ k_ ≠ aA) (.slice aX aJ.length aY) aJ) := ⟨by refine mV ?_; exact Kd.V_mono (vf12 aA 0 (Kd.V_mono a1.out (fun k_ hk => (⟨hk, hk.2.2⟩ : _ ∧ k_ ≠ aA))) (fun _ hk => hk.2) (.int .i64 aK) (.int .i64 aO) (.slice aX aJ.length aY) (.int .i64 aM) (.int .i64 aP) (.int .i64 aL) (.int .i64 aW) (.int .i64 aQ) (.int .i64 aU) (.slice aR aI.length aS) (.slice aV aF.length aT) (.bool true)) (fun _ hk => ⟨hk.1.1, ⟨hk.1.2.1, hk.1.2.2⟩⟩)⟩
                    have n2_ : Aside0 (Kd.R (Kd.int .i64) 3 ((((((((((((w21.setCell ⟨aA, 0, none⟩ (.int .i64 aK)).setCell ⟨aA, 1, none⟩ (.int .i64 aO)).setCell ⟨aA, 2, none⟩ (.slice aX aJ.length aY)).setCell ⟨aA, 3, none⟩ (.int .i64 aM)).setCell ⟨aA, 4, none⟩ (.int .i64 aP)).setCell ⟨aA, 5, none⟩ (.int .i64 aL)).setCell ⟨aA, 6, none⟩ (.int .i64 aW)).setCell ⟨aA, 7, none⟩ (.int .i64 aQ)).setCell ⟨aA, 8, none⟩ (.int .i64 aU)).setCell ⟨aA, 9, none⟩ (.slice aR aI.length aS)).setCell ⟨aA, 10, none⟩ (.slice aV aF.length aT)).setCell ⟨aA, 11, none⟩ (.bool true)) w.heap.size (fun _ => True) (.slice aR aI.length aS) aI) := ⟨by refine mR ?_; exact Kd.R_mono (rf12 aA 0 (Kd.R_types a3.out aB.out (by decide)) (fun _ hk => hk.2) (.int .i64 aK) (.int .i64 aO) (.slice aX aJ.length aY) (.int .i64 aM) (.int .i64 aP) (.int .i64 aL) (.int .i64 aW) (.int .i64 aQ) (.int .i64 aU) (.slice aR aI.length aS) (.slice aV aF.length aT) (.bool true)) (fun _ hk => trivial)⟩
                    have n3_ : Aside0 (Kd.R k53 53 ((((((((((((w21.setCell ⟨aA, 0, none⟩ (.int .i64 aK)).setCell ⟨aA, 1, none⟩ (.int .i64 aO)).setCell ⟨aA, 2, none⟩ (.slice aX aJ.length aY)).setCell ⟨aA, 3, none⟩ (.int .i64 aM)).setCell ⟨aA, 4, none⟩ (.int .i64 aP)).setCell ⟨aA, 5, none⟩ (.int .i64 aL)).setCell ⟨aA, 6, none⟩ (.int .i64 aW)).setCell ⟨aA, 7, none⟩ (.int .i64 aQ)).setCell ⟨aA, 8, none⟩ (.int .i64 aU)).setCell ⟨aA, 9, none⟩ (.slice aR aI.length aS)).setCell ⟨aA, 10, none⟩ (.slice aV aF.length aT)).setCell ⟨aA, 11, none⟩ (.bool true)) w.heap.size (fun _ => True) (.slice aV aF.length aT) aF) := ⟨by refine mR ?_; exact Kd.R_mono (rf12 aA 0 (Kd.R_types a4.out aB.out (by decide)) (fun _ hk => hk.2) (.int .i64 aK) (.int .i64 aO) (.slice aX aJ.length aY) (.int .i64 aM) (.int .i64 aP) (.int .i64 aL) (.int .i64 aW) (.int .i64 aQ) (.int .i64 aU) (.slice aR aI.length aS) (.slice aV aF.length aT) (.bool true)) (fun _ hk => trivial)⟩
                    have n4_ : Aside0 (((((((((((((w21.setCell ⟨aA, 0, none⟩ (.int .i64 aK)).setCell ⟨aA, 1, none⟩ (.int .i64 aO)).setCell ⟨aA, 2, none⟩ (.slice aX aJ.length aY)).setCell ⟨aA, 3, none⟩ (.int .i64 aM)).setCell ⟨aA, 4, none⟩ (.int .i64 aP)).setCell ⟨aA, 5, none⟩ (.int .i64 aL)).setCell ⟨aA, 6, none⟩ (.int .i64 aW)).setCell ⟨aA, 7, none⟩ (.int .i64 aQ)).setCell ⟨aA, 8, none⟩ (.int .i64 aU)).setCell ⟨aA, 9, none⟩ (.slice aR aI.length aS)).setCell ⟨aA, 10, none⟩ (.slice aV aF.length aT)).setCell ⟨aA, 11, none⟩ (.bool true)).heap[aA]? = some (.cells #[.int .i64 aK, .int .i64 aO, .slice aX aJ.length aY, .int .i64 aM, .int .i64 aP, .int .i64 aL, .int .i64 aW, .int .i64 aQ, .int .i64 aU, .slice aR aI.length aS, .slice aV aF.length aT, .bool true] 67 (0, 0))) := ⟨by exact (mK (pt12_0_12 aB.out))⟩
                    have n5_ : Aside0 (Below w.heap.size w ((((((((((((w21.setCell ⟨aA, 0, none⟩ (.int .i64 aK)).setCell ⟨aA, 1, none⟩ (.int .i64 aO)).setCell ⟨aA, 2, none⟩ (.slice aX aJ.length aY)).setCell ⟨aA, 3, none⟩ (.int .i64 aM)).setCell ⟨aA, 4, none⟩ (.int .i64 aP)).setCell ⟨aA, 5, none⟩ (.int .i64 aL)).setCell ⟨aA, 6, none⟩ (.int .i64 aW)).setCell ⟨aA, 7, none⟩ (.int .i64 aQ)).setCell ⟨aA, 8, none⟩ (.int .i64 aU)).setCell ⟨aA, 9, none⟩ (.slice aR aI.length aS)).setCell ⟨aA, 10, none⟩ (.slice aV aF.length aT)).setCell ⟨aA, 11, none⟩ (.bool true))) := ⟨kB HB.out⟩
                    (try clear aE)
                    (try clear a1)
                    (try clear a3)
                    (try clear a4)
                    (try clear aB)
                    (try clear HB)
                    generalize ((((((((((((w21.setCell ⟨aA, 0, none⟩ (.int .i64 aK)).setCell ⟨aA, 1, none⟩ (.int .i64 aO)).setCell ⟨aA, 2, none⟩ (.slice aX aJ.length aY)).setCell ⟨aA, 3, none⟩ (.int .i64 aM)).setCell ⟨aA, 4, none⟩ (.int .i64 aP)).setCell ⟨aA, 5, none⟩ (.int .i64 aL)).setCell ⟨aA, 6, none⟩ (.int .i64 aW)).setCell ⟨aA, 7, none⟩ (.int .i64 aQ)).setCell ⟨aA, 8, none⟩ (.int .i64 aU)).setCell ⟨aA, 9, none⟩ (.slice aR aI.length aS)).setCell ⟨aA, 10, none⟩ (.slice aV aF.length aT)).setCell ⟨aA, 11, none⟩ (.bool true)) = w41 at n0_ n1_ n2_ n3_ n4_ n5_ ⊢
                    have aE := n0_
                    have a1 := n1_
                    have a3 := n2_
                    have a4 := n3_
                    have aB := n4_
                    have HB := n5_
                    clear n0_ n1_ n2_ n3_ n4_ n5_
                    have n0_ := Aside0.mk (Kd.V_drew aE.out)
                    have n1_ := Aside0.mk (Kd.V_drew a1.out)
                    have n2_ := Aside0.mk (Kd.R_drew a3.out)
                    have n3_ := Aside0.mk (Kd.R_drew a4.out)
                    have n4_ := Aside0.mk (blk_drew aB.out)
                    have n5_ := Aside0.mk (below_drew1 HB.out)
                    clear aE
                    clear a1
                    clear a3
                    clear a4
                    clear aB
                    clear HB
                    have aE := n0_
                    have a1 := n1_
                    have a3 := n2_
                    have a4 := n3_
                    have aB := n4_
                    have HB := n5_
                    clear n0_ n1_ n2_ n3_ n4_ n5_
                    refine start_ (n := 30) (S := fun w' => w'.cell? ⟨aA, 0, none⟩ = some (.int .i64 aK) ∧ w'.cell? ⟨aA, 1, none⟩ = some (.int .i64 aO) ∧ w'.cell? ⟨aA, 2, none⟩ = some (.slice aX aJ.length aY) ∧ w'.cell? ⟨aA, 3, none⟩ = some (.int .i64 aM) ∧ w'.cell? ⟨aA, 4, none⟩ = some (.int .i64 aP) ∧ w'.cell? ⟨aA, 5, none⟩ = some (.int .i64 aL) ∧ w'.cell? ⟨aA, 6, none⟩ = some (.int .i64 aW) ∧ w'.cell? ⟨aA, 7, none⟩ = some (.int .i64 aQ) ∧ w'.cell? ⟨aA, 8, none⟩ = some (.int .i64 aU) ∧ w'.cell? ⟨aA, 9, none⟩ = some (.slice aR aI.length aS) ∧ w'.cell? ⟨aA, 10, none⟩ = some (.slice aV aF.length aT) ∧ w'.cell? ⟨aA, 11, none⟩ = some (.bool true)) (ds := []) #[false, false, false, false, false, false, false, false, false, false, false, false, false, false, false, false, false, false, false, false, false, false, false, false, false, false, false, false, false, false] (by kernel_rfl) rfl rfl ⟨(blk_cell aB.out 0).trans rfl, (blk_cell aB.out 1).trans rfl, (blk_cell aB.out 2).trans rfl, (blk_cell aB.out 3).trans rfl, (blk_cell aB.out 4).trans rfl, (blk_cell aB.out 5).trans rfl, (blk_cell aB.out 6).trans rfl, (blk_cell aB.out 7).trans rfl, (blk_cell aB.out 8).trans rfl, (blk_cell aB.out 9).trans rfl, (blk_cell aB.out 10).trans rfl, (blk_cell aB.out 11).trans rfl⟩ (fun hHeld => ?_); refine with_tabW standbylaw32_CommitSafe.tab9 standbylaw32_CommitSafe.bits9 (fun HT_ HW_ => ?_)
                    generalize w41.drew = w42 at aE a1 a3 a4 aB HB hHeld ⊢
                    refine pure_ (i := 0) (N := some 27) (v := ?_) (a' := ?_) (bs 30 1) rfl rfl (any_of HT_.out (by kernel_rfl)) (fun _ _ _ h => h) (Or.inl ⟨by rfl, ?_⟩) ?_ ?_
                    rotate_left
                    · intro w'
                      go_simp
                      with_reducible rfl
                    rotate_left
                    · simp only [Act.put, sA, sB, sC, i64_w, i32_w]
                      rfl
                    refine take_ (i := 1) (N := some 28) (v := ?_) (a' := ?_) (bs 30 3) rfl rfl (take_ofW HT_.out HW_.out (by kernel_rfl)) (fun _ _ _ h => h) (Or.inl ⟨by rfl, ?_⟩) hHeld ?_ ?_
                    rotate_left
                    · rintro w' ⟨s0, s1, s2, s3, s4, s5, s6, s7, s8, s9, s10, s11⟩
                      go_simp
                      with_reducible rfl
                    rotate_left
                    · simp only [Act.put, sA, sB, sC, i64_w, i32_w]
                      rfl
                    refine pure_ (i := 2) (N := some 29) (v := ?_) (a' := ?_) (bs 30 7) rfl rfl (any_of HT_.out (by kernel_rfl)) (fun _ _ _ h => h) (Or.inl ⟨by rfl, ?_⟩) ?_ ?_
                    rotate_left
                    · intro w'
                      go_simp
                      with_reducible rfl
                    rotate_left
                    · simp only [Act.put, sA, sB, sC, i64_w, i32_w]
                      rfl
                    refine pure_ (i := 3) (N := some 30) (v := ?_) (a' := ?_) (bs 30 15) rfl rfl (any_of HT_.out (by kernel_rfl)) (fun _ _ _ h => h) (Or.inl ⟨by rfl, ?_⟩) ?_ ?_
                    rotate_left
                    · intro w'
                      go_simp
                      with_reducible rfl
                    rotate_left
                    · simp only [Act.put, sA, sB, sC, i64_w, i32_w]
                      rfl
                    refine pure_ (i := 4) (N := some 31) (v := ?_) (a' := ?_) (bs 30 31) rfl rfl (any_of HT_.out (by kernel_rfl)) (fun _ _ _ h => h) (Or.inl ⟨by rfl, ?_⟩) ?_ ?_
                    rotate_left
                    · intro w'
                      go_simp
                      with_reducible rfl
                    rotate_left
                    · simp only [Act.put, sA, sB, sC, i64_w, i32_w]
                      rfl
                    refine pure_ (i := 7) (N := some 34) (v := ?_) (a' := ?_) (bs 30 159) rfl rfl (any_of HT_.out (by kernel_rfl)) (fun _ _ _ h => h) (Or.inl ⟨by rfl, ?_⟩) ?_ ?_
                    rotate_left
                    · intro w'
                      go_simp
                      with_reducible rfl
                    rotate_left
                    · simp only [Act.put, sA, sB, sC, i64_w, i32_w]
                      rfl
                    refine pure_ (i := 8) (N := some 35) (v := ?_) (a' := ?_) (bs 30 415) rfl rfl (any_of HT_.out (by kernel_rfl)) (fun _ _ _ h => h) (Or.inl ⟨by rfl, ?_⟩) ?_ ?_
                    rotate_left
                    · intro w'
                      go_simp
                      with_reducible rfl
                    rotate_left
                    · simp only [Act.put, sA, sB, sC, i64_w, i32_w]
                      rfl
                    refine take_ (i := 5) (N := some 32) (v := ?_) (a' := ?_) (bs 30 447) rfl rfl (take_ofW HT_.out HW_.out (by kernel_rfl)) (fun _ _ _ h => h) (Or.inl ⟨by rfl, ?_⟩) hHeld ?_ ?_
                    rotate_left
                    · rintro w' ⟨s0, s1, s2, s3, s4, s5, s6, s7, s8, s9, s10, s11⟩
                      go_simp
                      with_reducible rfl
                    rotate_left
                    · simp only [Act.put, sA, sB, sC, i64_w, i32_w]
                      rfl
                    refine take_ (i := 9) (N := some 36) (v := ?_) (a' := ?_) (bs 30 959) rfl rfl (take_ofW HT_.out HW_.out (by kernel_rfl)) (fun _ _ _ h => h) (Or.inl ⟨by rfl, ?_⟩) hHeld ?_ ?_
                    rotate_left
                    · rintro w' ⟨s0, s1, s2, s3, s4, s5, s6, s7, s8, s9, s10, s11⟩
                      go_simp
                      with_reducible rfl
                    rotate_left
                    · simp only [Act.put, sA, sB, sC, i64_w, i32_w]
                      rfl
                    refine one_ (i := 6) (N := some 33) (bs 30 1023) rfl rfl (one_of HT_.out (by kernel_rfl)) (by decide) (fun K hK => ?_)
                    refine goes_ Try.func27 (by kernel_rfl) rfl #[.agg #[.int .i64 aK, .int .i64 aO, .slice aX aJ.length aY, .int .i64 aM, .int .i64 aP]] (by rfl) rfl rfl (by (try simp only [List.map_toArray, List.map_cons, List.map_nil]); first | done | rfl | (simp only [List.length_drop, List.length_take]; rfl)) ?_
                    with_reducible refine (commit_Releasable.calls k1 aK aO _ _ aJ aM aP cC _ ?side1 ?side2 A38.out).mono ?_
                    (case side1 => repeat (first | exact (Kd.V_reads' a1.out).2.2 | (with_reducible refine Kd.C_alloc ?_ _) | (with_reducible refine Kd.C_drewN ?_ _) | (with_reducible refine Kd.C_drew ?_)))
                    (case side2 => exact (Kd.V_reads' a1.out).2.1)
                    rintro e w43 ⟨rfl, hb⟩
                    refine ⟨_, rfl, ?_⟩
                    have n0_ := tV aE hb
                    have n1_ := tV a1 hb
                    have n2_ := tR a3 hb
                    have n3_ := tR a4 hb
                    have n4_ := tK aB hb
                    have n5_ := tB HB hb
                    clear aE
                    clear a1
                    clear a3
                    clear a4
                    clear aB
                    clear HB
                    have aE := n0_
                    have a1 := n1_
                    have a3 := n2_
                    have a4 := n3_
                    have aB := n4_
                    have HB := n5_
                    clear n0_ n1_ n2_ n3_ n4_ n5_
                    (try clear hb)
                    (try clear hb2)
                    (try clear hk)
                    (try clear hi)
                    refine hK.out _ _ ⟨(blk_cell aB.out 0).trans rfl, (blk_cell aB.out 1).trans rfl, (blk_cell aB.out 2).trans rfl, (blk_cell aB.out 3).trans rfl, (blk_cell aB.out 4).trans rfl, (blk_cell aB.out 5).trans rfl, (blk_cell aB.out 6).trans rfl, (blk_cell aB.out 7).trans rfl, (blk_cell aB.out 8).trans rfl, (blk_cell aB.out 9).trans rfl, (blk_cell aB.out 10).trans rfl, (blk_cell aB.out 11).trans rfl⟩ (fun hHeld => ?_)
                    clear hK K
                    refine norm_ (a' := ?_) ?_ ?_
                    rotate_left
                    · show Act.put _ (some 33) _ = _
                      simp only [Act.put, sA, sB, sC, i64_w, i32_w]
                      rfl
                    refine pure_ (i := 10) (N := some 37) (v := ?_) (a' := ?_) (bs 30 2047) rfl rfl (any_of HT_.out (by kernel_rfl)) (fun _ _ _ h => h) (Or.inl ⟨by rfl, ?_⟩) ?_ ?_
                    rotate_left
                    · intro w'
                      go_simp
                      with_reducible rfl
                    rotate_left
                    · simp only [Act.put, sA, sB, sC, i64_w, i32_w]
                      rfl
                    refine pure_ (i := 11) (N := some 38) (v := ?_) (a' := ?_) (bs 30 4095) rfl rfl (any_of HT_.out (by kernel_rfl)) (fun _ _ _ h => h) (Or.inl ⟨by rfl, ?_⟩) ?_ ?_
                    rotate_left
                    · intro w'
                      go_simp
                      with_reducible rfl
                    rotate_left
                    · simp only [Act.put, sA, sB, sC, i64_w, i32_w]
                      rfl
                    refine pure_ (i := 12) (N := some 39) (v := ?_) (a' := ?_) (bs 30 8191) rfl rfl (any_of HT_.out (by kernel_rfl)) (fun _ _ _ h => h) (Or.inl ⟨by rfl, ?_⟩) ?_ ?_
                    rotate_left
                    · intro w'
                      go_simp
                      with_reducible rfl
                    rotate_left
                    · simp only [Act.put, sA, sB, sC, i64_w, i32_w]
                      rfl
                    refine pure_ (i := 13) (N := some 40) (v := ?_) (a' := ?_) (bs 30 16383) rfl rfl (any_of HT_.out (by kernel_rfl)) (fun _ _ _ h => h) (Or.inl ⟨by rfl, ?_⟩) ?_ ?_
                    rotate_left
                    · intro w'
                      go_simp
                      with_reducible rfl
                    rotate_left
                    · simp only [Act.put, sA, sB, sC, i64_w, i32_w]
                      rfl
                    refine pure_ (i := 14) (N := some 41) (v := ?_) (a' := ?_) (bs 30 32767) rfl rfl (any_of HT_.out (by kernel_rfl)) (fun _ _ _ h => h) (Or.inl ⟨by rfl, ?_⟩) ?_ ?_
                    rotate_left
                    · intro w'
                      go_simp
                      with_reducible rfl
                    rotate_left
                    · simp only [Act.put, sA, sB, sC, i64_w, i32_w]
                      rfl
                    refine pure_ (i := 16) (N := some 43) (v := ?_) (a' := ?_) (bs 30 98303) rfl rfl (any_of HT_.out (by kernel_rfl)) (fun _ _ _ h => h) (Or.inl ⟨by rfl, ?_⟩) ?_ ?_
                    rotate_left
                    · intro w'
                      go_simp
                      with_reducible rfl
                    rotate_left
                    · simp only [Act.put, sA, sB, sC, i64_w, i32_w]
                      rfl
                    refine pure_ (i := 17) (N := some 44) (v := ?_) (a' := ?_) (bs 30 229375) rfl rfl (any_of HT_.out (by kernel_rfl)) (fun _ _ _ h => h) (Or.inl ⟨by rfl, ?_⟩) ?_ ?_
                    rotate_left
                    · intro w'
                      go_simp
                      with_reducible rfl
                    rotate_left
                    · simp only [Act.put, sA, sB, sC, i64_w, i32_w]
                      rfl
                    refine take_ (i := 15) (N := some 42) (v := ?_) (a' := ?_) (bs 30 262143) rfl rfl (take_ofW HT_.out HW_.out (by kernel_rfl)) (fun _ _ _ h => h) (Or.inl ⟨by rfl, ?_⟩) hHeld ?_ ?_
                    rotate_left
                    · rintro w' ⟨s0, s1, s2, s3, s4, s5, s6, s7, s8, s9, s10, s11⟩
                      go_simp
                      with_reducible rfl
                    rotate_left
                    · simp only [Act.put, sA, sB, sC, i64_w, i32_w]
                      rfl
                    refine take_ (i := 18) (N := some 45) (v := ?_) (a' := ?_) (bs 30 524287) rfl rfl (take_ofW HT_.out HW_.out (by kernel_rfl)) (fun _ _ _ h => h) (Or.inl ⟨by rfl, ?_⟩) hHeld ?_ ?_
                    rotate_left
                    · rintro w' ⟨s0, s1, s2, s3, s4, s5, s6, s7, s8, s9, s10, s11⟩
                      go_simp
                      with_reducible rfl
                    rotate_left
                    · simp only [Act.put, sA, sB, sC, i64_w, i32_w]
                      rfl
                    refine pure_ (i := 19) (N := some 46) (v := ?_) (a' := ?_) (bs 30 1048575) rfl rfl (any_of HT_.out (by kernel_rfl)) (fun _ _ _ h => h) (Or.inl ⟨by rfl, ?_⟩) ?_ ?_
                    rotate_left
                    · intro w'
                      go_simp
                      with_reducible rfl
                    rotate_left
                    · simp only [Act.put, sA, sB, sC, i64_w, i32_w]
                      rfl
                    refine pure_ (i := 20) (N := some 47) (v := ?_) (a' := ?_) (bs 30 2097151) rfl rfl (any_of HT_.out (by kernel_rfl)) (fun _ _ _ h => h) (Or.inl ⟨by rfl, ?_⟩) ?_ ?_
                    rotate_left
                    · intro w'
                      go_simp
                      with_reducible rfl
                    rotate_left
                    · simp only [Act.put, sA, sB, sC, i64_w, i32_w]
                      rfl
                    refine pure_ (i := 21) (N := some 48) (v := ?_) (a' := ?_) (bs 30 4194303) rfl rfl (any_of HT_.out (by kernel_rfl)) (fun _ _ _ h => h) (Or.inl ⟨by rfl, ?_⟩) ?_ ?_
                    rotate_left
                    · intro w'
                      go_simp
                      with_reducible rfl
                    rotate_left
                    · simp only [Act.put, sA, sB, sC, i64_w, i32_w]
                      rfl
                    refine pure_ (i := 22) (N := some 49) (v := ?_) (a' := ?_) (bs 30 8388607) rfl rfl (any_of HT_.out (by kernel_rfl)) (fun _ _ _ h => h) (Or.inl ⟨by rfl, ?_⟩) ?_ ?_
                    rotate_left
                    · intro w'
                      go_simp
                      with_reducible rfl
                    rotate_left
                    · simp only [Act.put, sA, sB, sC, i64_w, i32_w]
                      rfl
                    refine pure_ (i := 24) (N := some 51) (v := ?_) (a' := ?_) (bs 30 25165823) rfl rfl (any_of HT_.out (by kernel_rfl)) (fun _ _ _ h => h) (Or.inl ⟨by rfl, ?_⟩) ?_ ?_
                    rotate_left
                    · intro w'
                      go_simp
                      with_reducible rfl
                    rotate_left
                    · simp only [Act.put, sA, sB, sC, i64_w, i32_w]
                      rfl
                    refine pure_ (i := 25) (N := some 52) (v := ?_) (a' := ?_) (bs 30 58720255) rfl rfl (any_of HT_.out (by kernel_rfl)) (fun _ _ _ h => h) (Or.inl ⟨by rfl, ?_⟩) ?_ ?_
                    rotate_left
                    · intro w'
                      go_simp
                      with_reducible rfl
                    rotate_left
                    · simp only [Act.put, sA, sB, sC, i64_w, i32_w]
                      rfl
                    refine take_ (i := 23) (N := some 50) (v := ?_) (a' := ?_) (bs 30 67108863) rfl rfl (take_ofW HT_.out HW_.out (by kernel_rfl)) (fun _ _ _ h => h) (Or.inl ⟨by rfl, ?_⟩) hHeld ?_ ?_
                    rotate_left
                    · rintro w' ⟨s0, s1, s2, s3, s4, s5, s6, s7, s8, s9, s10, s11⟩
                      go_simp
                      with_reducible rfl
                    rotate_left
                    · simp only [Act.put, sA, sB, sC, i64_w, i32_w]
                      rfl
                    refine take_ (i := 26) (N := some 53) (v := ?_) (a' := ?_) (bs 30 134217727) rfl rfl (take_ofW HT_.out HW_.out (by kernel_rfl)) (fun _ _ _ h => h) (Or.inl ⟨by rfl, ?_⟩) hHeld ?_ ?_
                    rotate_left
                    · rintro w' ⟨s0, s1, s2, s3, s4, s5, s6, s7, s8, s9, s10, s11⟩
                      go_simp
                      with_reducible rfl
                    rotate_left
                    · simp only [Act.put, sA, sB, sC, i64_w, i32_w]
                      rfl
                    refine pure_ (i := 27) (N := some 54) (v := ?_) (a' := ?_) (bs 30 268435455) rfl rfl (any_of HT_.out (by kernel_rfl)) (fun _ _ _ h => h) (Or.inl ⟨by rfl, ?_⟩) ?_ ?_
                    rotate_left
                    · intro w'
                      go_simp
                      with_reducible rfl
                    rotate_left
                    · simp only [Act.put, sA, sB, sC, i64_w, i32_w]
                      rfl
                    refine pure_ (i := 28) (N := some 55) (v := ?_) (a' := ?_) (bs 30 536870911) rfl rfl (any_of HT_.out (by kernel_rfl)) (fun _ _ _ h => h) (Or.inl ⟨by rfl, ?_⟩) ?_ ?_
                    rotate_left
                    · intro w'
                      go_simp
                      with_reducible rfl
                    rotate_left
                    · simp only [Act.put, sA, sB, sC, i64_w, i32_w]
                      rfl
                    refine pure_ (i := 29) (N := some 56) (v := ?_) (a' := ?_) (bs 30 1073741823) rfl rfl (any_of HT_.out (by kernel_rfl)) (fun _ _ _ h => h) (Or.inl ⟨by rfl, ?_⟩) ?_ ?_
                    rotate_left
                    · intro w'
                      go_simp
                      with_reducible rfl
                    rotate_left
                    · simp only [Act.put, sA, sB, sC, i64_w, i32_w]
                      rfl
                    refine done_ (done_of HT_.out (by kernel_rfl)) ?_
                    try go_wp2
                    go_meet
                    case rel => exact ⟨_, (decide (aM > aQ)), (by first | rfl | (simp; done) | (simp [*]; done)), H', ⟨by have := HK1.out; first | omega | exact Nat.le_refl _⟩, ⟨by refine mV ?_; exact a1.out⟩, ⟨by refine mR ?_; exact a3.out⟩, ⟨by refine mR ?_; exact a4.out⟩, ⟨by refine mK ?_; exact aB.out⟩, ⟨kB HB.out⟩⟩
                  · rw [if_neg c40] at H
                    have dN : (aK == aL) = false := beq_eq_false_iff_ne.mpr c40
                    have dO : (aK != aL) = true := bne_iff_ne.mpr c40
                    have H' := Aside0.mk H
                    clear H
                    try go_wp2
                    have n0_ : Aside0 (Kd.V (Kd.int .i64) 3 ((((((((((((w21.setCell ⟨aA, 0, none⟩ (.int .i64 aK)).setCell ⟨aA, 1, none⟩ (.int .i64 aO)).setCell ⟨aA, 2, none⟩ (.slice aX aJ.length aY)).setCell ⟨aA, 3, none⟩ (.int .i64 aM)).setCell ⟨aA, 4, none⟩ (.int .i64 aP)).setCell ⟨aA, 5, none⟩ (.int .i64 aL)).setCell ⟨aA, 6, none⟩ (.int .i64 aW)).setCell ⟨aA, 7, none⟩ (.int .i64 aQ)).setCell ⟨aA, 8, none⟩ (.int .i64 aU)).setCell ⟨aA, 9, none⟩ (.slice aR aI.length aS)).setCell ⟨aA, 10, none⟩ (.slice aV aF.length aT)).setCell ⟨aA, 11, none⟩ (.bool true)) w.heap.size (fun k_ => some k_ ≠ (.slice aR aI.length aS : Value).ownBlock ∧ some k_ ≠ (.slice aV aF.length aT : Value).ownBlock ∧ k_ ≠ aA) (.slice c6 a6.length c7) a6) := ⟨by refine mV ?_; exact Kd.V_mono (vf12 aA 0 (Kd.V_mono aE.out (fun k_ hk => (⟨hk, hk.1⟩ : _ ∧ k_ ≠ aA))) (fun _ hk => hk.2) (.int .i64 aK) (.int .i64 aO) (.slice aX aJ.length aY) (.int .i64 aM) (.int .i64 aP) (.int .i64 aL) (.int .i64 aW) (.int .i64 aQ) (.int .i64 aU) (.slice aR aI.length aS) (.slice aV aF.length aT) (.bool true)) (fun _ hk => ⟨hk.1.2.1, ⟨hk.1.2.2, hk.1.1⟩⟩)⟩
                    have n1_ : Aside0 (Kd.V (Kd.int .i64) 3 ((((((((((((w21.setCell ⟨aA, 0, none⟩ (.int .i64 aK)).setCell ⟨aA, 1, none⟩ (.int .i64 aO)).setCell ⟨aA, 2, none⟩ (.slice aX aJ.length aY)).setCell ⟨aA, 3, none⟩ (.int .i64 aM)).setCell ⟨aA, 4, none⟩ (.int .i64 aP)).setCell ⟨aA, 5, none⟩ (.int .i64 aL)).setCell ⟨aA, 6, none⟩ (.int .i64 aW)).setCell ⟨aA, 7, none⟩ (.int .i64 aQ)).setCell ⟨aA, 8, none⟩ (.int .i64 aU)).setCell ⟨aA, 9, none⟩ (.slice aR aI.length aS)).setCell ⟨aA, 10, none⟩ (.slice aV aF.length aT)).setCell ⟨aA, 11, none⟩ (.bool true)) w.heap.size (fun k_ => some k_ ≠ (.slice aR aI.length aS : Value).ownBlock ∧ some k_ ≠ (.slice aV aF.length aT : Value).ownBlock ∧ k_ ≠ aA) (.slice aX aJ.length aY) aJ) := ⟨by refine mV ?_; exact Kd.V_mono (vf12 aA 0 (Kd.V_mono a1.out (fun k_ hk => (⟨hk, hk.2.2⟩ : _ ∧ k_ ≠ aA))) (fun _ hk => hk.2) (.int .i64 aK) (.int .i64 aO) (.slice aX aJ.length aY) (.int .i64 aM) (.int .i64 aP) (.int .i64 aL) (.int .i64 aW) (.int .i64 aQ) (.int .i64 aU) (.slice aR aI.length aS) (.slice aV aF.length aT) (.bool true)) (fun _ hk => ⟨hk.1.1, ⟨hk.1.2.1, hk.1.2.2⟩⟩)⟩
                    have n2_ : Aside0 (Kd.R (Kd.int .i64) 3 ((((((((((((w21.setCell ⟨aA, 0, none⟩ (.int .i64 aK)).setCell ⟨aA, 1, none⟩ (.int .i64 aO)).setCell ⟨aA, 2, none⟩ (.slice aX aJ.length aY)).setCell ⟨aA, 3, none⟩ (.int .i64 aM)).setCell ⟨aA, 4, none⟩ (.int .i64 aP)).setCell ⟨aA, 5, none⟩ (.int .i64 aL)).setCell ⟨aA, 6, none⟩ (.int .i64 aW)).setCell ⟨aA, 7, none⟩ (.int .i64 aQ)).setCell ⟨aA, 8, none⟩ (.int .i64 aU)).setCell ⟨aA, 9, none⟩ (.slice aR aI.length aS)).setCell ⟨aA, 10, none⟩ (.slice aV aF.length aT)).setCell ⟨aA, 11, none⟩ (.bool true)) w.heap.size (fun _ => True) (.slice aR aI.length aS) aI) := ⟨by refine mR ?_; exact Kd.R_mono (rf12 aA 0 (Kd.R_types a3.out aB.out (by decide)) (fun _ hk => hk.2) (.int .i64 aK) (.int .i64 aO) (.slice aX aJ.length aY) (.int .i64 aM) (.int .i64 aP) (.int .i64 aL) (.int .i64 aW) (.int .i64 aQ) (.int .i64 aU) (.slice aR aI.length aS) (.slice aV aF.length aT) (.bool true)) (fun _ hk => trivial)⟩
                    have n3_ : Aside0 (Kd.R k53 53 ((((((((((((w21.setCell ⟨aA, 0, none⟩ (.int .i64 aK)).setCell ⟨aA, 1, none⟩ (.int .i64 aO)).setCell ⟨aA, 2, none⟩ (.slice aX aJ.length aY)).setCell ⟨aA, 3, none⟩ (.int .i64 aM)).setCell ⟨aA, 4, none⟩ (.int .i64 aP)).setCell ⟨aA, 5, none⟩ (.int .i64 aL)).setCell ⟨aA, 6, none⟩ (.int .i64 aW)).setCell ⟨aA, 7, none⟩ (.int .i64 aQ)).setCell ⟨aA, 8, none⟩ (.int .i64 aU)).setCell ⟨aA, 9, none⟩ (.slice aR aI.length aS)).setCell ⟨aA, 10, none⟩ (.slice aV aF.length aT)).setCell ⟨aA, 11, none⟩ (.bool true)) w.heap.size (fun _ => True) (.slice aV aF.length aT) aF) := ⟨by refine mR ?_; exact Kd.R_mono (rf12 aA 0 (Kd.R_types a4.out aB.out (by decide)) (fun _ hk => hk.2) (.int .i64 aK) (.int .i64 aO) (.slice aX aJ.length aY) (.int .i64 aM) (.int .i64 aP) (.int .i64 aL) (.int .i64 aW) (.int .i64 aQ) (.int .i64 aU) (.slice aR aI.length aS) (.slice aV aF.length aT) (.bool true)) (fun _ hk => trivial)⟩
                    have n4_ : Aside0 (((((((((((((w21.setCell ⟨aA, 0, none⟩ (.int .i64 aK)).setCell ⟨aA, 1, none⟩ (.int .i64 aO)).setCell ⟨aA, 2, none⟩ (.slice aX aJ.length aY)).setCell ⟨aA, 3, none⟩ (.int .i64 aM)).setCell ⟨aA, 4, none⟩ (.int .i64 aP)).setCell ⟨aA, 5, none⟩ (.int .i64 aL)).setCell ⟨aA, 6, none⟩ (.int .i64 aW)).setCell ⟨aA, 7, none⟩ (.int .i64 aQ)).setCell ⟨aA, 8, none⟩ (.int .i64 aU)).setCell ⟨aA, 9, none⟩ (.slice aR aI.length aS)).setCell ⟨aA, 10, none⟩ (.slice aV aF.length aT)).setCell ⟨aA, 11, none⟩ (.bool true)).heap[aA]? = some (.cells #[.int .i64 aK, .int .i64 aO, .slice aX aJ.length aY, .int .i64 aM, .int .i64 aP, .int .i64 aL, .int .i64 aW, .int .i64 aQ, .int .i64 aU, .slice aR aI.length aS, .slice aV aF.length aT, .bool true] 67 (0, 0))) := ⟨by exact (mK (pt12_0_12 aB.out))⟩
                    have n5_ : Aside0 (Below w.heap.size w ((((((((((((w21.setCell ⟨aA, 0, none⟩ (.int .i64 aK)).setCell ⟨aA, 1, none⟩ (.int .i64 aO)).setCell ⟨aA, 2, none⟩ (.slice aX aJ.length aY)).setCell ⟨aA, 3, none⟩ (.int .i64 aM)).setCell ⟨aA, 4, none⟩ (.int .i64 aP)).setCell ⟨aA, 5, none⟩ (.int .i64 aL)).setCell ⟨aA, 6, none⟩ (.int .i64 aW)).setCell ⟨aA, 7, none⟩ (.int .i64 aQ)).setCell ⟨aA, 8, none⟩ (.int .i64 aU)).setCell ⟨aA, 9, none⟩ (.slice aR aI.length aS)).setCell ⟨aA, 10, none⟩ (.slice aV aF.length aT)).setCell ⟨aA, 11, none⟩ (.bool true))) := ⟨kB HB.out⟩
                    (try clear aE)
                    (try clear a1)
                    (try clear a3)
                    (try clear a4)
                    (try clear aB)
                    (try clear HB)
                    generalize ((((((((((((w21.setCell ⟨aA, 0, none⟩ (.int .i64 aK)).setCell ⟨aA, 1, none⟩ (.int .i64 aO)).setCell ⟨aA, 2, none⟩ (.slice aX aJ.length aY)).setCell ⟨aA, 3, none⟩ (.int .i64 aM)).setCell ⟨aA, 4, none⟩ (.int .i64 aP)).setCell ⟨aA, 5, none⟩ (.int .i64 aL)).setCell ⟨aA, 6, none⟩ (.int .i64 aW)).setCell ⟨aA, 7, none⟩ (.int .i64 aQ)).setCell ⟨aA, 8, none⟩ (.int .i64 aU)).setCell ⟨aA, 9, none⟩ (.slice aR aI.length aS)).setCell ⟨aA, 10, none⟩ (.slice aV aF.length aT)).setCell ⟨aA, 11, none⟩ (.bool true)) = w44 at n0_ n1_ n2_ n3_ n4_ n5_ ⊢
                    have aE := n0_
                    have a1 := n1_
                    have a3 := n2_
                    have a4 := n3_
                    have aB := n4_
                    have HB := n5_
                    clear n0_ n1_ n2_ n3_ n4_ n5_
                    have n0_ := Aside0.mk (Kd.V_drew aE.out)
                    have n1_ := Aside0.mk (Kd.V_drew a1.out)
                    have n2_ := Aside0.mk (Kd.R_drew a3.out)
                    have n3_ := Aside0.mk (Kd.R_drew a4.out)
                    have n4_ := Aside0.mk (blk_drew aB.out)
                    have n5_ := Aside0.mk (below_drew1 HB.out)
                    clear aE
                    clear a1
                    clear a3
                    clear a4
                    clear aB
                    clear HB
                    have aE := n0_
                    have a1 := n1_
                    have a3 := n2_
                    have a4 := n3_
                    have aB := n4_
                    have HB := n5_
                    clear n0_ n1_ n2_ n3_ n4_ n5_
                    refine start_ (n := 30) (S := fun w' => w'.cell? ⟨aA, 0, none⟩ = some (.int .i64 aK) ∧ w'.cell? ⟨aA, 1, none⟩ = some (.int .i64 aO) ∧ w'.cell? ⟨aA, 2, none⟩ = some (.slice aX aJ.length aY) ∧ w'.cell? ⟨aA, 3, none⟩ = some (.int .i64 aM) ∧ w'.cell? ⟨aA, 4, none⟩ = some (.int .i64 aP) ∧ w'.cell? ⟨aA, 5, none⟩ = some (.int .i64 aL) ∧ w'.cell? ⟨aA, 6, none⟩ = some (.int .i64 aW) ∧ w'.cell? ⟨aA, 7, none⟩ = some (.int .i64 aQ) ∧ w'.cell? ⟨aA, 8, none⟩ = some (.int .i64 aU) ∧ w'.cell? ⟨aA, 9, none⟩ = some (.slice aR aI.length aS) ∧ w'.cell? ⟨aA, 10, none⟩ = some (.slice aV aF.length aT) ∧ w'.cell? ⟨aA, 11, none⟩ = some (.bool true)) (ds := []) #[false, false, false, false, false, false, false, false, false, false, false, false, false, false, false, false, false, false, false, false, false, false, false, false, false, false, false, false, false, false] (by kernel_rfl) rfl rfl ⟨(blk_cell aB.out 0).trans rfl, (blk_cell aB.out 1).trans rfl, (blk_cell aB.out 2).trans rfl, (blk_cell aB.out 3).trans rfl, (blk_cell aB.out 4).trans rfl, (blk_cell aB.out 5).trans rfl, (blk_cell aB.out 6).trans rfl, (blk_cell aB.out 7).trans rfl, (blk_cell aB.out 8).trans rfl, (blk_cell aB.out 9).trans rfl, (blk_cell aB.out 10).trans rfl, (blk_cell aB.out 11).trans rfl⟩ (fun hHeld => ?_); refine with_tabW standbylaw32_CommitSafe.tab9 standbylaw32_CommitSafe.bits9 (fun HT_ HW_ => ?_)
                    generalize w44.drew = w45 at aE a1 a3 a4 aB HB hHeld ⊢
                    refine pure_ (i := 0) (N := some 27) (v := ?_) (a' := ?_) (bs 30 1) rfl rfl (any_of HT_.out (by kernel_rfl)) (fun _ _ _ h => h) (Or.inl ⟨by rfl, ?_⟩) ?_ ?_
                    rotate_left
                    · intro w'
                      go_simp
                      with_reducible rfl
                    rotate_left
                    · simp only [Act.put, sA, sB, sC, i64_w, i32_w]
                      rfl
                    refine take_ (i := 1) (N := some 28) (v := ?_) (a' := ?_) (bs 30 3) rfl rfl (take_ofW HT_.out HW_.out (by kernel_rfl)) (fun _ _ _ h => h) (Or.inl ⟨by rfl, ?_⟩) hHeld ?_ ?_
                    rotate_left
                    · rintro w' ⟨s0, s1, s2, s3, s4, s5, s6, s7, s8, s9, s10, s11⟩
                      go_simp
                      with_reducible rfl
                    rotate_left
                    · simp only [Act.put, sA, sB, sC, i64_w, i32_w]
                      rfl
                    refine pure_ (i := 2) (N := some 29) (v := ?_) (a' := ?_) (bs 30 7) rfl rfl (any_of HT_.out (by kernel_rfl)) (fun _ _ _ h => h) (Or.inl ⟨by rfl, ?_⟩) ?_ ?_
                    rotate_left
                    · intro w'
                      go_simp
                      with_reducible rfl
                    rotate_left
                    · simp only [Act.put, sA, sB, sC, i64_w, i32_w]
                      rfl
                    refine pure_ (i := 3) (N := some 30) (v := ?_) (a' := ?_) (bs 30 15) rfl rfl (any_of HT_.out (by kernel_rfl)) (fun _ _ _ h => h) (Or.inl ⟨by rfl, ?_⟩) ?_ ?_
                    rotate_left
                    · intro w'
                      go_simp
                      with_reducible rfl
                    rotate_left
                    · simp only [Act.put, sA, sB, sC, i64_w, i32_w]
                      rfl
                    refine pure_ (i := 4) (N := some 31) (v := ?_) (a' := ?_) (bs 30 31) rfl rfl (any_of HT_.out (by kernel_rfl)) (fun _ _ _ h => h) (Or.inl ⟨by rfl, ?_⟩) ?_ ?_
                    rotate_left
                    · intro w'
                      go_simp
                      with_reducible rfl
                    rotate_left
                    · simp only [Act.put, sA, sB, sC, i64_w, i32_w]
                      rfl
                    refine pure_ (i := 7) (N := some 34) (v := ?_) (a' := ?_) (bs 30 159) rfl rfl (any_of HT_.out (by kernel_rfl)) (fun _ _ _ h => h) (Or.inl ⟨by rfl, ?_⟩) ?_ ?_
                    rotate_left
                    · intro w'
                      go_simp
                      with_reducible rfl
                    rotate_left
                    · simp only [Act.put, sA, sB, sC, i64_w, i32_w]
                      rfl
                    refine pure_ (i := 8) (N := some 35) (v := ?_) (a' := ?_) (bs 30 415) rfl rfl (any_of HT_.out (by kernel_rfl)) (fun _ _ _ h => h) (Or.inl ⟨by rfl, ?_⟩) ?_ ?_
                    rotate_left
                    · intro w'
                      go_simp
                      with_reducible rfl
                    rotate_left
                    · simp only [Act.put, sA, sB, sC, i64_w, i32_w]
                      rfl
                    refine take_ (i := 5) (N := some 32) (v := ?_) (a' := ?_) (bs 30 447) rfl rfl (take_ofW HT_.out HW_.out (by kernel_rfl)) (fun _ _ _ h => h) (Or.inl ⟨by rfl, ?_⟩) hHeld ?_ ?_
                    rotate_left
                    · rintro w' ⟨s0, s1, s2, s3, s4, s5, s6, s7, s8, s9, s10, s11⟩
                      go_simp
                      with_reducible rfl
                    rotate_left
                    · simp only [Act.put, sA, sB, sC, i64_w, i32_w]
                      rfl
                    refine take_ (i := 9) (N := some 36) (v := ?_) (a' := ?_) (bs 30 959) rfl rfl (take_ofW HT_.out HW_.out (by kernel_rfl)) (fun _ _ _ h => h) (Or.inl ⟨by rfl, ?_⟩) hHeld ?_ ?_
                    rotate_left
                    · rintro w' ⟨s0, s1, s2, s3, s4, s5, s6, s7, s8, s9, s10, s11⟩
                      go_simp
                      with_reducible rfl
                    rotate_left
                    · simp only [Act.put, sA, sB, sC, i64_w, i32_w]
                      rfl
                    refine one_ (i := 6) (N := some 33) (bs 30 1023) rfl rfl (one_of HT_.out (by kernel_rfl)) (by decide) (fun K hK => ?_)
                    refine goes_ Try.func27 (by kernel_rfl) rfl #[.agg #[.int .i64 aK, .int .i64 aO, .slice aX aJ.length aY, .int .i64 aM, .int .i64 aP]] (by rfl) rfl rfl (by (try simp only [List.map_toArray, List.map_cons, List.map_nil]); first | done | rfl | (simp only [List.length_drop, List.length_take]; rfl)) ?_
                    with_reducible refine (commit_Releasable.calls k1 aK aO _ _ aJ aM aP cC _ ?side1 ?side2 A38.out).mono ?_
                    (case side1 => repeat (first | exact (Kd.V_reads' a1.out).2.2 | (with_reducible refine Kd.C_alloc ?_ _) | (with_reducible refine Kd.C_drewN ?_ _) | (with_reducible refine Kd.C_drew ?_)))
                    (case side2 => exact (Kd.V_reads' a1.out).2.1)
                    rintro e w46 ⟨rfl, hb⟩
                    refine ⟨_, rfl, ?_⟩
                    have n0_ := tV aE hb
                    have n1_ := tV a1 hb
                    have n2_ := tR a3 hb
                    have n3_ := tR a4 hb
                    have n4_ := tK aB hb
                    have n5_ := tB HB hb
                    clear aE
                    clear a1
                    clear a3
                    clear a4
                    clear aB
                    clear HB
                    have aE := n0_
                    have a1 := n1_
                    have a3 := n2_
                    have a4 := n3_
                    have aB := n4_
                    have HB := n5_
                    clear n0_ n1_ n2_ n3_ n4_ n5_
                    (try clear hb)
                    (try clear hb2)
                    (try clear hk)
                    (try clear hi)
                    refine hK.out _ _ ⟨(blk_cell aB.out 0).trans rfl, (blk_cell aB.out 1).trans rfl, (blk_cell aB.out 2).trans rfl, (blk_cell aB.out 3).trans rfl, (blk_cell aB.out 4).trans rfl, (blk_cell aB.out 5).trans rfl, (blk_cell aB.out 6).trans rfl, (blk_cell aB.out 7).trans rfl, (blk_cell aB.out 8).trans rfl, (blk_cell aB.out 9).trans rfl, (blk_cell aB.out 10).trans rfl, (blk_cell aB.out 11).trans rfl⟩ (fun hHeld => ?_)
                    clear hK K
                    refine norm_ (a' := ?_) ?_ ?_
                    rotate_left
                    · show Act.put _ (some 33) _ = _
                      simp only [Act.put, sA, sB, sC, i64_w, i32_w]
                      rfl
                    refine pure_ (i := 10) (N := some 37) (v := ?_) (a' := ?_) (bs 30 2047) rfl rfl (any_of HT_.out (by kernel_rfl)) (fun _ _ _ h => h) (Or.inl ⟨by rfl, ?_⟩) ?_ ?_
                    rotate_left
                    · intro w'
                      go_simp
                      with_reducible rfl
                    rotate_left
                    · simp only [Act.put, sA, sB, sC, i64_w, i32_w]
                      rfl
                    refine pure_ (i := 11) (N := some 38) (v := ?_) (a' := ?_) (bs 30 4095) rfl rfl (any_of HT_.out (by kernel_rfl)) (fun _ _ _ h => h) (Or.inl ⟨by rfl, ?_⟩) ?_ ?_
                    rotate_left
                    · intro w'
                      go_simp
                      with_reducible rfl
                    rotate_left
                    · simp only [Act.put, sA, sB, sC, i64_w, i32_w]
                      rfl
                    refine pure_ (i := 12) (N := some 39) (v := ?_) (a' := ?_) (bs 30 8191) rfl rfl (any_of HT_.out (by kernel_rfl)) (fun _ _ _ h => h) (Or.inl ⟨by rfl, ?_⟩) ?_ ?_
                    rotate_left
                    · intro w'
                      go_simp
                      with_reducible rfl
                    rotate_left
                    · simp only [Act.put, sA, sB, sC, i64_w, i32_w]
                      rfl
                    refine pure_ (i := 13) (N := some 40) (v := ?_) (a' := ?_) (bs 30 16383) rfl rfl (any_of HT_.out (by kernel_rfl)) (fun _ _ _ h => h) (Or.inl ⟨by rfl, ?_⟩) ?_ ?_
                    rotate_left
                    · intro w'
                      go_simp
                      with_reducible rfl
                    rotate_left
                    · simp only [Act.put, sA, sB, sC, i64_w, i32_w]
                      rfl
                    refine pure_ (i := 14) (N := some 41) (v := ?_) (a' := ?_) (bs 30 32767) rfl rfl (any_of HT_.out (by kernel_rfl)) (fun _ _ _ h => h) (Or.inl ⟨by rfl, ?_⟩) ?_ ?_
                    rotate_left
                    · intro w'
                      go_simp
                      with_reducible rfl
                    rotate_left
                    · simp only [Act.put, sA, sB, sC, i64_w, i32_w]
                      rfl
                    refine pure_ (i := 16) (N := some 43) (v := ?_) (a' := ?_) (bs 30 98303) rfl rfl (any_of HT_.out (by kernel_rfl)) (fun _ _ _ h => h) (Or.inl ⟨by rfl, ?_⟩) ?_ ?_
                    rotate_left
                    · intro w'
                      go_simp
                      with_reducible rfl
                    rotate_left
                    · simp only [Act.put, sA, sB, sC, i64_w, i32_w]
                      rfl
                    refine pure_ (i := 17) (N := some 44) (v := ?_) (a' := ?_) (bs 30 229375) rfl rfl (any_of HT_.out (by kernel_rfl)) (fun _ _ _ h => h) (Or.inl ⟨by rfl, ?_⟩) ?_ ?_
                    rotate_left
                    · intro w'
                      go_simp
                      with_reducible rfl
                    rotate_left
                    · simp only [Act.put, sA, sB, sC, i64_w, i32_w]
                      rfl
                    refine take_ (i := 15) (N := some 42) (v := ?_) (a' := ?_) (bs 30 262143) rfl rfl (take_ofW HT_.out HW_.out (by kernel_rfl)) (fun _ _ _ h => h) (Or.inl ⟨by rfl, ?_⟩) hHeld ?_ ?_
                    rotate_left
                    · rintro w' ⟨s0, s1, s2, s3, s4, s5, s6, s7, s8, s9, s10, s11⟩
                      go_simp
                      with_reducible rfl
                    rotate_left
                    · simp only [Act.put, sA, sB, sC, i64_w, i32_w]
                      rfl
                    refine take_ (i := 18) (N := some 45) (v := ?_) (a' := ?_) (bs 30 524287) rfl rfl (take_ofW HT_.out HW_.out (by kernel_rfl)) (fun _ _ _ h => h) (Or.inl ⟨by rfl, ?_⟩) hHeld ?_ ?_
                    rotate_left
                    · rintro w' ⟨s0, s1, s2, s3, s4, s5, s6, s7, s8, s9, s10, s11⟩
                      go_simp
                      with_reducible rfl
                    rotate_left
                    · simp only [Act.put, sA, sB, sC, i64_w, i32_w]
                      rfl
                    refine pure_ (i := 19) (N := some 46) (v := ?_) (a' := ?_) (bs 30 1048575) rfl rfl (any_of HT_.out (by kernel_rfl)) (fun _ _ _ h => h) (Or.inl ⟨by rfl, ?_⟩) ?_ ?_
                    rotate_left
                    · intro w'
                      go_simp
                      with_reducible rfl
                    rotate_left
                    · simp only [Act.put, sA, sB, sC, i64_w, i32_w]
                      rfl
                    refine pure_ (i := 20) (N := some 47) (v := ?_) (a' := ?_) (bs 30 2097151) rfl rfl (any_of HT_.out (by kernel_rfl)) (fun _ _ _ h => h) (Or.inl ⟨by rfl, ?_⟩) ?_ ?_
                    rotate_left
                    · intro w'
                      go_simp
                      with_reducible rfl
                    rotate_left
                    · simp only [Act.put, sA, sB, sC, i64_w, i32_w]
                      rfl
                    refine pure_ (i := 21) (N := some 48) (v := undef) (a' := ?_) (bs 30 4194303) rfl rfl (any_of HT_.out (by kernel_rfl)) (fun _ _ _ h => h) (Or.inr ⟨by rfl, rfl⟩) ?_ ?_
                    rotate_left
                    · simp only [Act.put, sA, sB, sC, i64_w, i32_w]
                      rfl
                    refine pure_ (i := 22) (N := some 49) (v := undef) (a' := ?_) (bs 30 8388607) rfl rfl (any_of HT_.out (by kernel_rfl)) (fun _ _ _ h => h) (Or.inr ⟨by rfl, rfl⟩) ?_ ?_
                    rotate_left
                    · simp only [Act.put, sA, sB, sC, i64_w, i32_w]
                      rfl
                    refine pure_ (i := 23) (N := some 50) (v := undef) (a' := ?_) (bs 30 16777215) rfl rfl (any_of HT_.out (by kernel_rfl)) (fun _ _ _ h => h) (Or.inr ⟨by rfl, rfl⟩) ?_ ?_
                    rotate_left
                    · simp only [Act.put, sA, sB, sC, i64_w, i32_w]
                      rfl
                    refine pure_ (i := 24) (N := some 51) (v := undef) (a' := ?_) (bs 30 33554431) rfl rfl (any_of HT_.out (by kernel_rfl)) (fun _ _ _ h => h) (Or.inr ⟨by rfl, rfl⟩) ?_ ?_
                    rotate_left
                    · simp only [Act.put, sA, sB, sC, i64_w, i32_w]
                      rfl
                    refine pure_ (i := 25) (N := some 52) (v := undef) (a' := ?_) (bs 30 67108863) rfl rfl (any_of HT_.out (by kernel_rfl)) (fun _ _ _ h => h) (Or.inr ⟨by rfl, rfl⟩) ?_ ?_
                    rotate_left
                    · simp only [Act.put, sA, sB, sC, i64_w, i32_w]
                      rfl
                    refine pure_ (i := 26) (N := some 53) (v := undef) (a' := ?_) (bs 30 134217727) rfl rfl (any_of HT_.out (by kernel_rfl)) (fun _ _ _ h => h) (Or.inr ⟨by rfl, rfl⟩) ?_ ?_
                    rotate_left
                    · simp only [Act.put, sA, sB, sC, i64_w, i32_w]
                      rfl
                    refine pure_ (i := 27) (N := some 54) (v := undef) (a' := ?_) (bs 30 268435455) rfl rfl (any_of HT_.out (by kernel_rfl)) (fun _ _ _ h => h) (Or.inr ⟨by rfl, rfl⟩) ?_ ?_
                    rotate_left
                    · simp only [Act.put, sA, sB, sC, i64_w, i32_w]
                      rfl
                    refine pure_ (i := 28) (N := some 55) (v := ?_) (a' := ?_) (bs 30 536870911) rfl rfl (any_of HT_.out (by kernel_rfl)) (fun _ _ _ h => h) (Or.inl ⟨by rfl, ?_⟩) ?_ ?_
                    rotate_left
                    · intro w'
                      go_simp
                      with_reducible rfl
                    rotate_left
                    · simp only [Act.put, sA, sB, sC, i64_w, i32_w]
                      rfl
                    refine pure_ (i := 29) (N := some 56) (v := ?_) (a' := ?_) (bs 30 1073741823) rfl rfl (any_of HT_.out (by kernel_rfl)) (fun _ _ _ h => h) (Or.inl ⟨by rfl, ?_⟩) ?_ ?_
                    rotate_left
                    · intro w'
                      go_simp
                      with_reducible rfl
                    rotate_left
                    · simp only [Act.put, sA, sB, sC, i64_w, i32_w]
                      rfl
                    refine done_ (done_of HT_.out (by kernel_rfl)) ?_
                    try go_wp2
                    go_meet
                    case rel => exact ⟨_, (false), (by first | rfl | (simp; done) | (simp [*]; done)), H', ⟨by have := HK1.out; first | omega | exact Nat.le_refl _⟩, ⟨by refine mV ?_; exact a1.out⟩, ⟨by refine mR ?_; exact a3.out⟩, ⟨by refine mR ?_; exact a4.out⟩, ⟨by refine mK ?_; exact aB.out⟩, ⟨kB HB.out⟩⟩
              · replace c37 := Bool.eq_false_iff.mpr c37
                subst c37
                have H1 : (none) = some r := by rw [if_neg (show ¬ (false = true) by decide)] at H; exact H
                clear H
                have H := H1
                clear H1
                exact absurd H (by simp)
            case rest =>
              clear HC15
              try clear c2
              try clear p2
              try clear c3
              try clear c4
              try clear c27
              try clear c37
              try clear c40
              try clear dN
              try clear dO
              obtain ⟨kq, cG, rfl, HA, HJ14, aE, aH, aG, aB, HB⟩ := hcut
              cases kq with
              | zero => exact absurd HA.out (by simp [standbylaw32_CommitSafe.j1])
              | succ kj14 =>
                have H := HA.out
                clear HA
                simp only [standbylaw32_CommitSafe.j1] at H
                by_cases c47 : cG = true
                · subst c47
                  have H1 : (none) = some r := by rw [if_pos rfl] at H; exact H
                  clear H
                  have H := H1
                  clear H1
                  exact absurd H (by simp)
                · replace c47 := Bool.eq_false_iff.mpr c47
                  subst c47
                  have H1 : (standbylaw32_CommitSafe.l1 kj14 l0 a5 (aZ.length : Int) aK aO aJ aM aP aL aW aQ aU aI aF b1) = some r := by rw [if_neg (show ¬ (false = true) by decide)] at H; exact H
                  clear H
                  have H := H1
                  clear H1
                  have H' := Aside0.mk H
                  clear H
                  go_wp2
                  go_loopg [6] kj14 (fun kq v6 w' => ∃ (aC : Int), v6 = .int .i64 aC ∧ Aside0 (standbylaw32_CommitSafe.l1 kq l0 a5 aC aK aO aJ aM aP aL aW aQ aU aI aF b1 = some r) ∧ Aside0 (kq ≤ kj14) ∧ Aside0 (Kd.V (Kd.int .i64) 3 w' w.heap.size (fun k_ => some k_ ≠ ((.slice aR aI.length aS) : Value).ownBlock ∧ some k_ ≠ ((.slice aV aF.length aT) : Value).ownBlock ∧ k_ ≠ aA) (.slice aX aJ.length aY) aJ) ∧ Aside0 (Kd.R (Kd.int .i64) 3 w' w.heap.size (fun _ => True) (.slice aR aI.length aS) aI) ∧ Aside0 (Kd.R k53 53 w' w.heap.size (fun _ => True) (.slice aV aF.length aT) aF) ∧ Aside0 (w'.heap[aA]? = some (.cells #[.int .i64 aK, .int .i64 aO, (.slice aX aJ.length aY), .int .i64 aM, .int .i64 aP, .int .i64 aL, .int .i64 aW, .int .i64 aQ, .int .i64 aU, (.slice aR aI.length aS), (.slice aV aF.length aT), .bool b1] 67 (0, 0))) ∧ Aside0 (Below w.heap.size w w'))
                  case atStart => exact ⟨((aZ.length : Int)), (by first | rfl | (simp; done) | (simp [*]; done)), H', ⟨Nat.le_refl _⟩, ⟨by refine mV ?_; exact aE.out⟩, ⟨by refine mR ?_; exact aH.out⟩, ⟨by refine mR ?_; exact aG.out⟩, ⟨by refine mK ?_; exact aB.out⟩, ⟨kB HB.out⟩⟩
                  case round =>
                    clear H'
                    try clear c2
                    try clear p2
                    try clear c3
                    try clear c4
                    try clear c27
                    try clear c37
                    try clear c40
                    try clear dN
                    try clear dO
                    try clear c47
                    try clear p2
                    obtain ⟨aC, rfl, HA, HK3, aE, aH, aG, aB, HB⟩ := hrel
                    cases gk with
                    | zero => exact absurd HA.out (by simp [standbylaw32_CommitSafe.l1])
                    | succ k3 =>
                      have H := HA.out
                      clear HA
                      simp only [standbylaw32_CommitSafe.l1] at H
                      by_cases c48 : aC < (aF.length : Int)
                      · rw [if_pos c48] at H
                        have eO : decide (aC < (aF.length : Int)) = true := decide_eq_true c48
                        clear c48
                        by_cases c49 : 0 ≤ aC
                        · rw [if_pos c49] at H
                          have c49b0 : decide (0 ≤ aC) = true := decide_eq_true c49
                          clear c49
                          by_cases c50 : ((rd_T53 aF aC).f0) = 10
                          · rw [if_pos c50] at H
                            have eP : (((rd_T53 aF aC).f0) == 10) = true := beq_iff_eq.mpr c50
                            have eQ : (((rd_T53 aF aC).f0) != 10) = false := bne_eq_false_iff_eq.mpr c50
                            clear c50
                            by_cases c51 : ((rd_T53 aF aC).f5) = aL
                            · rw [if_pos c51] at H
                              have eR : (((rd_T53 aF aC).f5) == aL) = true := beq_iff_eq.mpr c51
                              have eS : (((rd_T53 aF aC).f5) != aL) = false := bne_eq_false_iff_eq.mpr c51
                              clear c51
                              by_cases c52 : ((rd_T53 aF aC).f3) > aQ
                              · rw [if_pos c52] at H
                                exact absurd H (by simp)
                              · rw [if_neg c52] at H
                                have c52b0 : decide (aQ < ((rd_T53 aF aC).f3)) = false := decide_eq_false c52
                                clear c52
                                have H' := Aside0.mk H
                                clear H
                                obtain ⟨f7, f9, gA, gB, gC, gD, gE, gF, gG, gH, e1, e2⟩ := cz12 aB.out
                                obtain ⟨gI, gJ, gK, gL, gM, gN, gO, gP, gQ, gR, e3, e4⟩ := fz12 aB.out
                                try go_wp2
                                have n0_ := Aside0.mk (Kd.V_drew aE.out)
                                have n1_ := Aside0.mk (Kd.R_drew aH.out)
                                have n2_ := Aside0.mk (Kd.R_drew aG.out)
                                have n3_ := Aside0.mk (blk_drew aB.out)
                                have n4_ := Aside0.mk (below_drew1 HB.out)
                                clear aE
                                clear aH
                                clear aG
                                clear aB
                                clear HB
                                have aE := n0_
                                have aH := n1_
                                have aG := n2_
                                have aB := n3_
                                have HB := n4_
                                clear n0_ n1_ n2_ n3_ n4_
                                have p734 : 0 ≤ (aC : Int) := of_decide_eq_true (by first | (with_reducible assumption) | assumption)
                                have q734 : aC < (aF.length : Int) := of_decide_eq_true (by first | (with_reducible assumption) | assumption)
                                obtain ⟨aD, e734, bT, bU, bV, bW, bX, bY, bZ, b0⟩ := at_T53 (Kd.R_reads' aG.out).2.2 aC p734 q734
                                cases e734
                                replace p734 := eq_true p734
                                replace q734 := eq_true q734
                                have p735 : 0 ≤ (aC : Int) := of_decide_eq_true (by first | (with_reducible assumption) | assumption)
                                have q735 : aC < (aF.length : Int) := of_decide_eq_true (by first | (with_reducible assumption) | assumption)
                                obtain ⟨dP, e735, b4, b5, b6, b7, b8, b9, cA, cB⟩ := at_T53 (Kd.R_reads' aG.out).2.2 aC p735 q735
                                obtain rfl : aD = dP := (by injection e735)
                                replace p735 := eq_true p735
                                replace q735 := eq_true q735
                                have p736 : 0 ≤ (aC : Int) := of_decide_eq_true (by first | (with_reducible assumption) | assumption)
                                have q736 : aC < (aF.length : Int) := of_decide_eq_true (by first | (with_reducible assumption) | assumption)
                                obtain ⟨eT, e736, c9, dA, dB, dC, dD, dE, dF, dG⟩ := at_T53 (Kd.R_reads' aG.out).2.2 aC p736 q736
                                obtain rfl : aD = eT := (by injection e736)
                                replace p736 := eq_true p736
                                replace q736 := eq_true q736
                                refine start_ (n := 31) (S := fun w' => w'.cell? ⟨aA, 0, none⟩ = some (.int .i64 aK) ∧ w'.cell? ⟨aA, 1, none⟩ = some (.int .i64 aO) ∧ w'.cell? ⟨aA, 2, none⟩ = some (.slice aX aJ.length aY) ∧ w'.cell? ⟨aA, 3, none⟩ = some (.int .i64 aM) ∧ w'.cell? ⟨aA, 4, none⟩ = some (.int .i64 aP) ∧ w'.cell? ⟨aA, 5, none⟩ = some (.int .i64 aL) ∧ w'.cell? ⟨aA, 6, none⟩ = some (.int .i64 aW) ∧ w'.cell? ⟨aA, 7, none⟩ = some (.int .i64 aQ) ∧ w'.cell? ⟨aA, 8, none⟩ = some (.int .i64 aU) ∧ w'.cell? ⟨aA, 9, none⟩ = some (.slice aR aI.length aS) ∧ w'.cell? ⟨aA, 10, none⟩ = some (.slice (some aD) aF.length aT) ∧ w'.cell? ⟨aA, 11, none⟩ = some (.bool b1) ∧ w'.cell? (aD.add ((aC).toNat * 8)) = some (.int .i64 ((rd_T53 aF aC).f0)) ∧ w'.cell? ⟨(aD.add ((aC).toNat * 8)).block, (aD.add ((aC).toNat * 8)).off + 1, none⟩ = some (.int .i64 ((rd_T53 aF aC).f1)) ∧ w'.cell? ⟨(aD.add ((aC).toNat * 8)).block, (aD.add ((aC).toNat * 8)).off + 2, none⟩ = some (.int .i64 ((rd_T53 aF aC).f2)) ∧ w'.cell? ⟨(aD.add ((aC).toNat * 8)).block, (aD.add ((aC).toNat * 8)).off + 3, none⟩ = some (.int .i64 ((rd_T53 aF aC).f3)) ∧ w'.cell? ⟨(aD.add ((aC).toNat * 8)).block, (aD.add ((aC).toNat * 8)).off + 4, none⟩ = some (.int .i64 ((rd_T53 aF aC).f4)) ∧ w'.cell? ⟨(aD.add ((aC).toNat * 8)).block, (aD.add ((aC).toNat * 8)).off + 5, none⟩ = some (.int .i64 ((rd_T53 aF aC).f5)) ∧ w'.cell? ⟨(aD.add ((aC).toNat * 8)).block, (aD.add ((aC).toNat * 8)).off + 6, none⟩ = some (.slice none 0 0) ∧ w'.cell? ⟨(aD.add ((aC).toNat * 8)).block, (aD.add ((aC).toNat * 8)).off + 7, none⟩ = some (.slice none 0 0) ∧ w'.cell? (aD.add ((aC).toNat * 8)) = some (.int .i64 ((rd_T53 aF aC).f0)) ∧ w'.cell? ⟨(aD.add ((aC).toNat * 8)).block, (aD.add ((aC).toNat * 8)).off + 1, none⟩ = some (.int .i64 ((rd_T53 aF aC).f1)) ∧ w'.cell? ⟨(aD.add ((aC).toNat * 8)).block, (aD.add ((aC).toNat * 8)).off + 2, none⟩ = some (.int .i64 ((rd_T53 aF aC).f2)) ∧ w'.cell? ⟨(aD.add ((aC).toNat * 8)).block, (aD.add ((aC).toNat * 8)).off + 3, none⟩ = some (.int .i64 ((rd_T53 aF aC).f3)) ∧ w'.cell? ⟨(aD.add ((aC).toNat * 8)).block, (aD.add ((aC).toNat * 8)).off + 4, none⟩ = some (.int .i64 ((rd_T53 aF aC).f4)) ∧ w'.cell? ⟨(aD.add ((aC).toNat * 8)).block, (aD.add ((aC).toNat * 8)).off + 5, none⟩ = some (.int .i64 ((rd_T53 aF aC).f5)) ∧ w'.cell? ⟨(aD.add ((aC).toNat * 8)).block, (aD.add ((aC).toNat * 8)).off + 6, none⟩ = some (.slice none 0 0) ∧ w'.cell? ⟨(aD.add ((aC).toNat * 8)).block, (aD.add ((aC).toNat * 8)).off + 7, none⟩ = some (.slice none 0 0) ∧ w'.cell? (aD.add ((aC).toNat * 8)) = some (.int .i64 ((rd_T53 aF aC).f0)) ∧ w'.cell? ⟨(aD.add ((aC).toNat * 8)).block, (aD.add ((aC).toNat * 8)).off + 1, none⟩ = some (.int .i64 ((rd_T53 aF aC).f1)) ∧ w'.cell? ⟨(aD.add ((aC).toNat * 8)).block, (aD.add ((aC).toNat * 8)).off + 2, none⟩ = some (.int .i64 ((rd_T53 aF aC).f2)) ∧ w'.cell? ⟨(aD.add ((aC).toNat * 8)).block, (aD.add ((aC).toNat * 8)).off + 3, none⟩ = some (.int .i64 ((rd_T53 aF aC).f3)) ∧ w'.cell? ⟨(aD.add ((aC).toNat * 8)).block, (aD.add ((aC).toNat * 8)).off + 4, none⟩ = some (.int .i64 ((rd_T53 aF aC).f4)) ∧ w'.cell? ⟨(aD.add ((aC).toNat * 8)).block, (aD.add ((aC).toNat * 8)).off + 5, none⟩ = some (.int .i64 ((rd_T53 aF aC).f5)) ∧ w'.cell? ⟨(aD.add ((aC).toNat * 8)).block, (aD.add ((aC).toNat * 8)).off + 6, none⟩ = some (.slice none 0 0) ∧ w'.cell? ⟨(aD.add ((aC).toNat * 8)).block, (aD.add ((aC).toNat * 8)).off + 7, none⟩ = some (.slice none 0 0)) (ds := []) #[false, false, false, false, false, false, false, false, false, false, false, false, false, false, false, false, false, false, false, false, false, false, false, false, false, false, false, false, false, false, false] (by kernel_rfl) rfl rfl (ct12 aB.out ⟨bT, bU, bV, bW, bX, bY, bZ, b0, b4, b5, b6, b7, b8, b9, cA, cB, c9, dA, dB, dC, dD, dE, dF, dG⟩) (fun hHeld => ?_); refine with_tabW standbylaw32_CommitSafe.tab14 standbylaw32_CommitSafe.bits14 (fun HT_ HW_ => ?_)
                                generalize wr.drew = w54 at aE aH aG aB HB bT bU bV bW bX bY bZ b0 b4 b5 b6 b7 b8 b9 cA cB c9 dA dB dC dD dE dF dG hHeld ⊢
                                refine pure_ (i := 0) (N := some 65) (v := ?_) (a' := ?_) (bs 31 1) rfl rfl (any_of HT_.out (by kernel_rfl)) (fun _ _ _ h => h) (Or.inl ⟨by rfl, ?_⟩) ?_ ?_
                                rotate_left
                                · intro w'
                                  go_simp
                                  with_reducible rfl
                                rotate_left
                                · simp only [Act.put, sA, sB, sC, i64_w, i32_w]
                                  rfl
                                refine pure_ (i := 2) (N := some 67) (v := ?_) (a' := ?_) (bs 31 5) rfl rfl (any_of HT_.out (by kernel_rfl)) (fun _ _ _ h => h) (Or.inl ⟨by rfl, ?_⟩) ?_ ?_
                                rotate_left
                                · intro w'
                                  go_simp
                                  with_reducible rfl
                                rotate_left
                                · simp only [Act.put, sA, sB, sC, i64_w, i32_w]
                                  rfl
                                refine take_ (i := 1) (N := some 66) (v := ?_) (a' := ?_) (bs 31 7) rfl rfl (take_ofW HT_.out HW_.out (by kernel_rfl)) (fun _ _ _ h => h) (Or.inl ⟨by rfl, ?_⟩) hHeld ?_ ?_
                                rotate_left
                                · rintro w' ⟨s0, s1, s2, s3, s4, s5, s6, s7, s8, s9, s10, s11, s12, s13, s14, s15, s16, s17, s18, s19, s20, s21, s22, s23, s24, s25, s26, s27, s28, s29, s30, s31, s32, s33, s34, s35⟩
                                  go_simp
                                  with_reducible rfl
                                rotate_left
                                · simp only [Act.put, sA, sB, sC, i64_w, i32_w]
                                  rfl
                                refine pure_ (i := 3) (N := some 68) (v := ?_) (a' := ?_) (bs 31 15) rfl rfl (any_of HT_.out (by kernel_rfl)) (fun _ _ _ h => h) (Or.inl ⟨by rfl, ?_⟩) ?_ ?_
                                rotate_left
                                · intro w'
                                  go_simp
                                  with_reducible rfl
                                rotate_left
                                · simp only [Act.put, sA, sB, sC, i64_w, i32_w]
                                  rfl
                                refine pure_ (i := 4) (N := some 69) (v := ?_) (a' := ?_) (bs 31 31) rfl rfl (any_of HT_.out (by kernel_rfl)) (fun _ _ _ h => h) (Or.inl ⟨by rfl, ?_⟩) ?_ ?_
                                rotate_left
                                · intro w'
                                  go_simp
                                  with_reducible rfl
                                rotate_left
                                · simp only [Act.put, sA, sB, sC, i64_w, i32_w]
                                  rfl
                                refine take_ (i := 5) (N := some 70) (v := ?_) (a' := ?_) (bs 31 63) rfl rfl (take_ofW HT_.out HW_.out (by kernel_rfl)) (fun _ _ _ h => h) (Or.inl ⟨by rfl, ?_⟩) hHeld ?_ ?_
                                rotate_left
                                · rintro w' ⟨s0, s1, s2, s3, s4, s5, s6, s7, s8, s9, s10, s11, s12, s13, s14, s15, s16, s17, s18, s19, s20, s21, s22, s23, s24, s25, s26, s27, s28, s29, s30, s31, s32, s33, s34, s35⟩
                                  go_simp
                                  with_reducible rfl
                                rotate_left
                                · simp only [Act.put, sA, sB, sC, i64_w, i32_w]
                                  rfl
                                refine pure_ (i := 6) (N := some 71) (v := ?_) (a' := ?_) (bs 31 127) rfl rfl (any_of HT_.out (by kernel_rfl)) (fun _ _ _ h => h) (Or.inl ⟨by rfl, ?_⟩) ?_ ?_
                                rotate_left
                                · intro w'
                                  go_simp
                                  with_reducible rfl
                                rotate_left
                                · simp only [Act.put, sA, sB, sC, i64_w, i32_w]
                                  rfl
                                refine pure_ (i := 7) (N := some 72) (v := ?_) (a' := ?_) (bs 31 255) rfl rfl (any_of HT_.out (by kernel_rfl)) (fun _ _ _ h => h) (Or.inl ⟨by rfl, ?_⟩) ?_ ?_
                                rotate_left
                                · intro w'
                                  go_simp
                                  with_reducible rfl
                                rotate_left
                                · simp only [Act.put, sA, sB, sC, i64_w, i32_w]
                                  rfl
                                refine pure_ (i := 8) (N := some 73) (v := ?_) (a' := ?_) (bs 31 511) rfl rfl (any_of HT_.out (by kernel_rfl)) (fun _ _ _ h => h) (Or.inl ⟨by rfl, ?_⟩) ?_ ?_
                                rotate_left
                                · intro w'
                                  go_simp
                                  with_reducible rfl
                                rotate_left
                                · simp only [Act.put, sA, sB, sC, i64_w, i32_w]
                                  rfl
                                refine pure_ (i := 10) (N := some 75) (v := ?_) (a' := ?_) (bs 31 1535) rfl rfl (any_of HT_.out (by kernel_rfl)) (fun _ _ _ h => h) (Or.inl ⟨by rfl, ?_⟩) ?_ ?_
                                rotate_left
                                · intro w'
                                  go_simp
                                  with_reducible rfl
                                rotate_left
                                · simp only [Act.put, sA, sB, sC, i64_w, i32_w]
                                  rfl
                                refine pure_ (i := 14) (N := some 79) (v := ?_) (a' := ?_) (bs 31 17919) rfl rfl (any_of HT_.out (by kernel_rfl)) (fun _ _ _ h => h) (Or.inl ⟨by rfl, ?_⟩) ?_ ?_
                                rotate_left
                                · intro w'
                                  go_simp
                                  with_reducible rfl
                                rotate_left
                                · simp only [Act.put, sA, sB, sC, i64_w, i32_w]
                                  rfl
                                refine pure_ (i := 15) (N := some 80) (v := ?_) (a' := ?_) (bs 31 50687) rfl rfl (any_of HT_.out (by kernel_rfl)) (fun _ _ _ h => h) (Or.inl ⟨by rfl, ?_⟩) ?_ ?_
                                rotate_left
                                · intro w'
                                  go_simp
                                  with_reducible rfl
                                rotate_left
                                · simp only [Act.put, sA, sB, sC, i64_w, i32_w]
                                  rfl
                                refine take_ (i := 9) (N := some 74) (v := ?_) (a' := ?_) (bs 31 51199) rfl rfl (take_ofW HT_.out HW_.out (by kernel_rfl)) (fun _ _ _ h => h) (Or.inl ⟨by rfl, ?_⟩) hHeld ?_ ?_
                                rotate_left
                                · rintro w' ⟨s0, s1, s2, s3, s4, s5, s6, s7, s8, s9, s10, s11, s12, s13, s14, s15, s16, s17, s18, s19, s20, s21, s22, s23, s24, s25, s26, s27, s28, s29, s30, s31, s32, s33, s34, s35⟩
                                  go_simp
                                  with_reducible rfl
                                rotate_left
                                · simp only [Act.put, sA, sB, sC, i64_w, i32_w]
                                  rfl
                                refine pure_ (i := 11) (N := some 76) (v := ?_) (a' := ?_) (bs 31 53247) rfl rfl (any_of HT_.out (by kernel_rfl)) (fun _ _ _ h => h) (Or.inl ⟨by rfl, ?_⟩) ?_ ?_
                                rotate_left
                                · intro w'
                                  go_simp
                                  with_reducible rfl
                                rotate_left
                                · simp only [Act.put, sA, sB, sC, i64_w, i32_w]
                                  rfl
                                refine pure_ (i := 12) (N := some 77) (v := ?_) (a' := ?_) (bs 31 57343) rfl rfl (any_of HT_.out (by kernel_rfl)) (fun _ _ _ h => h) (Or.inl ⟨by rfl, ?_⟩) ?_ ?_
                                rotate_left
                                · intro w'
                                  go_simp
                                  with_reducible rfl
                                rotate_left
                                · simp only [Act.put, sA, sB, sC, i64_w, i32_w]
                                  rfl
                                refine take_ (i := 13) (N := some 78) (v := ?_) (a' := ?_) (bs 31 65535) rfl rfl (take_ofW HT_.out HW_.out (by kernel_rfl)) (fun _ _ _ h => h) (Or.inl ⟨by rfl, ?_⟩) hHeld ?_ ?_
                                rotate_left
                                · rintro w' ⟨s0, s1, s2, s3, s4, s5, s6, s7, s8, s9, s10, s11, s12, s13, s14, s15, s16, s17, s18, s19, s20, s21, s22, s23, s24, s25, s26, s27, s28, s29, s30, s31, s32, s33, s34, s35⟩
                                  go_simp
                                  with_reducible rfl
                                rotate_left
                                · simp only [Act.put, sA, sB, sC, i64_w, i32_w]
                                  rfl
                                refine take_ (i := 16) (N := some 81) (v := ?_) (a' := ?_) (bs 31 131071) rfl rfl (take_ofW HT_.out HW_.out (by kernel_rfl)) (fun _ _ _ h => h) (Or.inl ⟨by rfl, ?_⟩) hHeld ?_ ?_
                                rotate_left
                                · rintro w' ⟨s0, s1, s2, s3, s4, s5, s6, s7, s8, s9, s10, s11, s12, s13, s14, s15, s16, s17, s18, s19, s20, s21, s22, s23, s24, s25, s26, s27, s28, s29, s30, s31, s32, s33, s34, s35⟩
                                  go_simp
                                  with_reducible rfl
                                rotate_left
                                · simp only [Act.put, sA, sB, sC, i64_w, i32_w]
                                  rfl
                                refine pure_ (i := 17) (N := some 82) (v := ?_) (a' := ?_) (bs 31 262143) rfl rfl (any_of HT_.out (by kernel_rfl)) (fun _ _ _ h => h) (Or.inl ⟨by rfl, ?_⟩) ?_ ?_
                                rotate_left
                                · intro w'
                                  go_simp
                                  with_reducible rfl
                                rotate_left
                                · simp only [Act.put, sA, sB, sC, i64_w, i32_w]
                                  rfl
                                refine pure_ (i := 18) (N := some 83) (v := ?_) (a' := ?_) (bs 31 524287) rfl rfl (any_of HT_.out (by kernel_rfl)) (fun _ _ _ h => h) (Or.inl ⟨by rfl, ?_⟩) ?_ ?_
                                rotate_left
                                · intro w'
                                  go_simp
                                  with_reducible rfl
                                rotate_left
                                · simp only [Act.put, sA, sB, sC, i64_w, i32_w]
                                  rfl
                                refine pure_ (i := 19) (N := some 84) (v := ?_) (a' := ?_) (bs 31 1048575) rfl rfl (any_of HT_.out (by kernel_rfl)) (fun _ _ _ h => h) (Or.inl ⟨by rfl, ?_⟩) ?_ ?_
                                rotate_left
                                · intro w'
                                  go_simp
                                  with_reducible rfl
                                rotate_left
                                · simp only [Act.put, sA, sB, sC, i64_w, i32_w]
                                  rfl
                                refine pure_ (i := 20) (N := some 85) (v := ?_) (a' := ?_) (bs 31 2097151) rfl rfl (any_of HT_.out (by kernel_rfl)) (fun _ _ _ h => h) (Or.inl ⟨by rfl, ?_⟩) ?_ ?_
                                rotate_left
                                · intro w'
                                  go_simp
                                  with_reducible rfl
                                rotate_left
                                · simp only [Act.put, sA, sB, sC, i64_w, i32_w]
                                  rfl
                                refine pure_ (i := 22) (N := some 87) (v := ?_) (a' := ?_) (bs 31 6291455) rfl rfl (any_of HT_.out (by kernel_rfl)) (fun _ _ _ h => h) (Or.inl ⟨by rfl, ?_⟩) ?_ ?_
                                rotate_left
                                · intro w'
                                  go_simp
                                  with_reducible rfl
                                rotate_left
                                · simp only [Act.put, sA, sB, sC, i64_w, i32_w]
                                  rfl
                                refine pure_ (i := 26) (N := some 91) (v := ?_) (a' := ?_) (bs 31 73400319) rfl rfl (any_of HT_.out (by kernel_rfl)) (fun _ _ _ h => h) (Or.inl ⟨by rfl, ?_⟩) ?_ ?_
                                rotate_left
                                · intro w'
                                  go_simp
                                  with_reducible rfl
                                rotate_left
                                · simp only [Act.put, sA, sB, sC, i64_w, i32_w]
                                  rfl
                                refine pure_ (i := 27) (N := some 92) (v := ?_) (a' := ?_) (bs 31 207618047) rfl rfl (any_of HT_.out (by kernel_rfl)) (fun _ _ _ h => h) (Or.inl ⟨by rfl, ?_⟩) ?_ ?_
                                rotate_left
                                · intro w'
                                  go_simp
                                  with_reducible rfl
                                rotate_left
                                · simp only [Act.put, sA, sB, sC, i64_w, i32_w]
                                  rfl
                                refine take_ (i := 21) (N := some 86) (v := ?_) (a' := ?_) (bs 31 209715199) rfl rfl (take_ofW HT_.out HW_.out (by kernel_rfl)) (fun _ _ _ h => h) (Or.inl ⟨by rfl, ?_⟩) hHeld ?_ ?_
                                rotate_left
                                · rintro w' ⟨s0, s1, s2, s3, s4, s5, s6, s7, s8, s9, s10, s11, s12, s13, s14, s15, s16, s17, s18, s19, s20, s21, s22, s23, s24, s25, s26, s27, s28, s29, s30, s31, s32, s33, s34, s35⟩
                                  go_simp
                                  with_reducible rfl
                                rotate_left
                                · simp only [Act.put, sA, sB, sC, i64_w, i32_w]
                                  rfl
                                refine pure_ (i := 23) (N := some 88) (v := ?_) (a' := ?_) (bs 31 218103807) rfl rfl (any_of HT_.out (by kernel_rfl)) (fun _ _ _ h => h) (Or.inl ⟨by rfl, ?_⟩) ?_ ?_
                                rotate_left
                                · intro w'
                                  go_simp
                                  with_reducible rfl
                                rotate_left
                                · simp only [Act.put, sA, sB, sC, i64_w, i32_w]
                                  rfl
                                refine pure_ (i := 24) (N := some 89) (v := ?_) (a' := ?_) (bs 31 234881023) rfl rfl (any_of HT_.out (by kernel_rfl)) (fun _ _ _ h => h) (Or.inl ⟨by rfl, ?_⟩) ?_ ?_
                                rotate_left
                                · intro w'
                                  go_simp
                                  with_reducible rfl
                                rotate_left
                                · simp only [Act.put, sA, sB, sC, i64_w, i32_w]
                                  rfl
                                refine take_ (i := 25) (N := some 90) (v := ?_) (a' := ?_) (bs 31 268435455) rfl rfl (take_ofW HT_.out HW_.out (by kernel_rfl)) (fun _ _ _ h => h) (Or.inl ⟨by rfl, ?_⟩) hHeld ?_ ?_
                                rotate_left
                                · rintro w' ⟨s0, s1, s2, s3, s4, s5, s6, s7, s8, s9, s10, s11, s12, s13, s14, s15, s16, s17, s18, s19, s20, s21, s22, s23, s24, s25, s26, s27, s28, s29, s30, s31, s32, s33, s34, s35⟩
                                  go_simp
                                  with_reducible rfl
                                rotate_left
                                · simp only [Act.put, sA, sB, sC, i64_w, i32_w]
                                  rfl
                                refine take_ (i := 28) (N := some 93) (v := ?_) (a' := ?_) (bs 31 536870911) rfl rfl (take_ofW HT_.out HW_.out (by kernel_rfl)) (fun _ _ _ h => h) (Or.inl ⟨by rfl, ?_⟩) hHeld ?_ ?_
                                rotate_left
                                · rintro w' ⟨s0, s1, s2, s3, s4, s5, s6, s7, s8, s9, s10, s11, s12, s13, s14, s15, s16, s17, s18, s19, s20, s21, s22, s23, s24, s25, s26, s27, s28, s29, s30, s31, s32, s33, s34, s35⟩
                                  go_simp
                                  with_reducible rfl
                                rotate_left
                                · simp only [Act.put, sA, sB, sC, i64_w, i32_w]
                                  rfl
                                refine pure_ (i := 29) (N := some 94) (v := ?_) (a' := ?_) (bs 31 1073741823) rfl rfl (any_of HT_.out (by kernel_rfl)) (fun _ _ _ h => h) (Or.inl ⟨by rfl, ?_⟩) ?_ ?_
                                rotate_left
                                · intro w'
                                  go_simp
                                  with_reducible rfl
                                rotate_left
                                · simp only [Act.put, sA, sB, sC, i64_w, i32_w]
                                  rfl
                                refine pure_ (i := 30) (N := some 95) (v := ?_) (a' := ?_) (bs 31 2147483647) rfl rfl (any_of HT_.out (by kernel_rfl)) (fun _ _ _ h => h) (Or.inl ⟨by rfl, ?_⟩) ?_ ?_
                                rotate_left
                                · intro w'
                                  go_simp
                                  with_reducible rfl
                                rotate_left
                                · simp only [Act.put, sA, sB, sC, i64_w, i32_w]
                                  rfl
                                refine done_ (done_of HT_.out (by kernel_rfl)) ?_
                                try go_wp2
                                go_roundg k3
                                case measure => have := HK1.out; have := HJ14.out; have := HK3.out; omega
                                case rel => exact ⟨(wrap64 (aC + 1)), (by first | rfl | (simp; done) | (simp [*]; done)), H', ⟨by have := HK1.out; have := HJ14.out; have := HK3.out; omega⟩, ⟨by refine mV ?_; exact aE.out⟩, ⟨by refine mR ?_; exact aH.out⟩, ⟨by refine mR ?_; exact aG.out⟩, ⟨by refine mK ?_; exact aB.out⟩, ⟨kB HB.out⟩⟩
                            · rw [if_neg c51] at H
                              have eR : (((rd_T53 aF aC).f5) == aL) = false := beq_eq_false_iff_ne.mpr c51
                              have eS : (((rd_T53 aF aC).f5) != aL) = true := bne_iff_ne.mpr c51
                              have H' := Aside0.mk H
                              clear H
                              obtain ⟨gS, gT, gU, gV, gW, gX, gY, g0, g1, g2, e5, e6⟩ := cz12 aB.out
                              obtain ⟨g3, g4, g5, g6, g7, g8, g9, hA, hB, hC, e7, e8⟩ := fz12 aB.out
                              try go_wp2
                              have n0_ := Aside0.mk (Kd.V_drew aE.out)
                              have n1_ := Aside0.mk (Kd.R_drew aH.out)
                              have n2_ := Aside0.mk (Kd.R_drew aG.out)
                              have n3_ := Aside0.mk (blk_drew aB.out)
                              have n4_ := Aside0.mk (below_drew1 HB.out)
                              clear aE
                              clear aH
                              clear aG
                              clear aB
                              clear HB
                              have aE := n0_
                              have aH := n1_
                              have aG := n2_
                              have aB := n3_
                              have HB := n4_
                              clear n0_ n1_ n2_ n3_ n4_
                              have p734 : 0 ≤ (aC : Int) := of_decide_eq_true (by first | (with_reducible assumption) | assumption)
                              have q734 : aC < (aF.length : Int) := of_decide_eq_true (by first | (with_reducible assumption) | assumption)
                              obtain ⟨aD, e734, bT, bU, bV, bW, bX, bY, bZ, b0⟩ := at_T53 (Kd.R_reads' aG.out).2.2 aC p734 q734
                              cases e734
                              replace p734 := eq_true p734
                              replace q734 := eq_true q734
                              have p735 : 0 ≤ (aC : Int) := of_decide_eq_true (by first | (with_reducible assumption) | assumption)
                              have q735 : aC < (aF.length : Int) := of_decide_eq_true (by first | (with_reducible assumption) | assumption)
                              obtain ⟨dP, e735, b4, b5, b6, b7, b8, b9, cA, cB⟩ := at_T53 (Kd.R_reads' aG.out).2.2 aC p735 q735
                              obtain rfl : aD = dP := (by injection e735)
                              replace p735 := eq_true p735
                              replace q735 := eq_true q735
                              refine start_ (n := 31) (S := fun w' => w'.cell? ⟨aA, 0, none⟩ = some (.int .i64 aK) ∧ w'.cell? ⟨aA, 1, none⟩ = some (.int .i64 aO) ∧ w'.cell? ⟨aA, 2, none⟩ = some (.slice aX aJ.length aY) ∧ w'.cell? ⟨aA, 3, none⟩ = some (.int .i64 aM) ∧ w'.cell? ⟨aA, 4, none⟩ = some (.int .i64 aP) ∧ w'.cell? ⟨aA, 5, none⟩ = some (.int .i64 aL) ∧ w'.cell? ⟨aA, 6, none⟩ = some (.int .i64 aW) ∧ w'.cell? ⟨aA, 7, none⟩ = some (.int .i64 aQ) ∧ w'.cell? ⟨aA, 8, none⟩ = some (.int .i64 aU) ∧ w'.cell? ⟨aA, 9, none⟩ = some (.slice aR aI.length aS) ∧ w'.cell? ⟨aA, 10, none⟩ = some (.slice (some aD) aF.length aT) ∧ w'.cell? ⟨aA, 11, none⟩ = some (.bool b1) ∧ w'.cell? (aD.add ((aC).toNat * 8)) = some (.int .i64 ((rd_T53 aF aC).f0)) ∧ w'.cell? ⟨(aD.add ((aC).toNat * 8)).block, (aD.add ((aC).toNat * 8)).off + 1, none⟩ = some (.int .i64 ((rd_T53 aF aC).f1)) ∧ w'.cell? ⟨(aD.add ((aC).toNat * 8)).block, (aD.add ((aC).toNat * 8)).off + 2, none⟩ = some (.int .i64 ((rd_T53 aF aC).f2)) ∧ w'.cell? ⟨(aD.add ((aC).toNat * 8)).block, (aD.add ((aC).toNat * 8)).off + 3, none⟩ = some (.int .i64 ((rd_T53 aF aC).f3)) ∧ w'.cell? ⟨(aD.add ((aC).toNat * 8)).block, (aD.add ((aC).toNat * 8)).off + 4, none⟩ = some (.int .i64 ((rd_T53 aF aC).f4)) ∧ w'.cell? ⟨(aD.add ((aC).toNat * 8)).block, (aD.add ((aC).toNat * 8)).off + 5, none⟩ = some (.int .i64 ((rd_T53 aF aC).f5)) ∧ w'.cell? ⟨(aD.add ((aC).toNat * 8)).block, (aD.add ((aC).toNat * 8)).off + 6, none⟩ = some (.slice none 0 0) ∧ w'.cell? ⟨(aD.add ((aC).toNat * 8)).block, (aD.add ((aC).toNat * 8)).off + 7, none⟩ = some (.slice none 0 0) ∧ w'.cell? (aD.add ((aC).toNat * 8)) = some (.int .i64 ((rd_T53 aF aC).f0)) ∧ w'.cell? ⟨(aD.add ((aC).toNat * 8)).block, (aD.add ((aC).toNat * 8)).off + 1, none⟩ = some (.int .i64 ((rd_T53 aF aC).f1)) ∧ w'.cell? ⟨(aD.add ((aC).toNat * 8)).block, (aD.add ((aC).toNat * 8)).off + 2, none⟩ = some (.int .i64 ((rd_T53 aF aC).f2)) ∧ w'.cell? ⟨(aD.add ((aC).toNat * 8)).block, (aD.add ((aC).toNat * 8)).off + 3, none⟩ = some (.int .i64 ((rd_T53 aF aC).f3)) ∧ w'.cell? ⟨(aD.add ((aC).toNat * 8)).block, (aD.add ((aC).toNat * 8)).off + 4, none⟩ = some (.int .i64 ((rd_T53 aF aC).f4)) ∧ w'.cell? ⟨(aD.add ((aC).toNat * 8)).block, (aD.add ((aC).toNat * 8)).off + 5, none⟩ = some (.int .i64 ((rd_T53 aF aC).f5)) ∧ w'.cell? ⟨(aD.add ((aC).toNat * 8)).block, (aD.add ((aC).toNat * 8)).off + 6, none⟩ = some (.slice none 0 0) ∧ w'.cell? ⟨(aD.add ((aC).toNat * 8)).block, (aD.add ((aC).toNat * 8)).off + 7, none⟩ = some (.slice none 0 0)) (ds := []) #[false, false, false, false, false, false, false, false, false, false, false, false, false, false, false, false, false, false, false, false, false, false, false, false, false, false, false, false, false, false, false] (by kernel_rfl) rfl rfl (ct12 aB.out ⟨bT, bU, bV, bW, bX, bY, bZ, b0, b4, b5, b6, b7, b8, b9, cA, cB⟩) (fun hHeld => ?_); refine with_tabW standbylaw32_CommitSafe.tab14 standbylaw32_CommitSafe.bits14 (fun HT_ HW_ => ?_)
                              generalize wr.drew = w56 at aE aH aG aB HB bT bU bV bW bX bY bZ b0 b4 b5 b6 b7 b8 b9 cA cB hHeld ⊢
                              refine pure_ (i := 0) (N := some 65) (v := ?_) (a' := ?_) (bs 31 1) rfl rfl (any_of HT_.out (by kernel_rfl)) (fun _ _ _ h => h) (Or.inl ⟨by rfl, ?_⟩) ?_ ?_
                              rotate_left
                              · intro w'
                                go_simp
                                with_reducible rfl
                              rotate_left
                              · simp only [Act.put, sA, sB, sC, i64_w, i32_w]
                                rfl
                              refine pure_ (i := 2) (N := some 67) (v := ?_) (a' := ?_) (bs 31 5) rfl rfl (any_of HT_.out (by kernel_rfl)) (fun _ _ _ h => h) (Or.inl ⟨by rfl, ?_⟩) ?_ ?_
                              rotate_left
                              · intro w'
                                go_simp
                                with_reducible rfl
                              rotate_left
                              · simp only [Act.put, sA, sB, sC, i64_w, i32_w]
                                rfl
                              refine take_ (i := 1) (N := some 66) (v := ?_) (a' := ?_) (bs 31 7) rfl rfl (take_ofW HT_.out HW_.out (by kernel_rfl)) (fun _ _ _ h => h) (Or.inl ⟨by rfl, ?_⟩) hHeld ?_ ?_
                              rotate_left
                              · rintro w' ⟨s0, s1, s2, s3, s4, s5, s6, s7, s8, s9, s10, s11, s12, s13, s14, s15, s16, s17, s18, s19, s20, s21, s22, s23, s24, s25, s26, s27⟩
                                go_simp
                                with_reducible rfl
                              rotate_left
                              · simp only [Act.put, sA, sB, sC, i64_w, i32_w]
                                rfl
                              refine pure_ (i := 3) (N := some 68) (v := ?_) (a' := ?_) (bs 31 15) rfl rfl (any_of HT_.out (by kernel_rfl)) (fun _ _ _ h => h) (Or.inl ⟨by rfl, ?_⟩) ?_ ?_
                              rotate_left
                              · intro w'
                                go_simp
                                with_reducible rfl
                              rotate_left
                              · simp only [Act.put, sA, sB, sC, i64_w, i32_w]
                                rfl
                              refine pure_ (i := 4) (N := some 69) (v := ?_) (a' := ?_) (bs 31 31) rfl rfl (any_of HT_.out (by kernel_rfl)) (fun _ _ _ h => h) (Or.inl ⟨by rfl, ?_⟩) ?_ ?_
                              rotate_left
                              · intro w'
                                go_simp
                                with_reducible rfl
                              rotate_left
                              · simp only [Act.put, sA, sB, sC, i64_w, i32_w]
                                rfl
                              refine take_ (i := 5) (N := some 70) (v := ?_) (a' := ?_) (bs 31 63) rfl rfl (take_ofW HT_.out HW_.out (by kernel_rfl)) (fun _ _ _ h => h) (Or.inl ⟨by rfl, ?_⟩) hHeld ?_ ?_
                              rotate_left
                              · rintro w' ⟨s0, s1, s2, s3, s4, s5, s6, s7, s8, s9, s10, s11, s12, s13, s14, s15, s16, s17, s18, s19, s20, s21, s22, s23, s24, s25, s26, s27⟩
                                go_simp
                                with_reducible rfl
                              rotate_left
                              · simp only [Act.put, sA, sB, sC, i64_w, i32_w]
                                rfl
                              refine pure_ (i := 6) (N := some 71) (v := ?_) (a' := ?_) (bs 31 127) rfl rfl (any_of HT_.out (by kernel_rfl)) (fun _ _ _ h => h) (Or.inl ⟨by rfl, ?_⟩) ?_ ?_
                              rotate_left
                              · intro w'
                                go_simp
                                with_reducible rfl
                              rotate_left
                              · simp only [Act.put, sA, sB, sC, i64_w, i32_w]
                                rfl
                              refine pure_ (i := 7) (N := some 72) (v := ?_) (a' := ?_) (bs 31 255) rfl rfl (any_of HT_.out (by kernel_rfl)) (fun _ _ _ h => h) (Or.inl ⟨by rfl, ?_⟩) ?_ ?_
                              rotate_left
                              · intro w'
                                go_simp
                                with_reducible rfl
                              rotate_left
                              · simp only [Act.put, sA, sB, sC, i64_w, i32_w]
                                rfl
                              refine pure_ (i := 8) (N := some 73) (v := ?_) (a' := ?_) (bs 31 511) rfl rfl (any_of HT_.out (by kernel_rfl)) (fun _ _ _ h => h) (Or.inl ⟨by rfl, ?_⟩) ?_ ?_
                              rotate_left
                              · intro w'
                                go_simp
                                with_reducible rfl
                              rotate_left
                              · simp only [Act.put, sA, sB, sC, i64_w, i32_w]
                                rfl
                              refine pure_ (i := 10) (N := some 75) (v := ?_) (a' := ?_) (bs 31 1535) rfl rfl (any_of HT_.out (by kernel_rfl)) (fun _ _ _ h => h) (Or.inl ⟨by rfl, ?_⟩) ?_ ?_
                              rotate_left
                              · intro w'
                                go_simp
                                with_reducible rfl
                              rotate_left
                              · simp only [Act.put, sA, sB, sC, i64_w, i32_w]
                                rfl
                              refine pure_ (i := 14) (N := some 79) (v := ?_) (a' := ?_) (bs 31 17919) rfl rfl (any_of HT_.out (by kernel_rfl)) (fun _ _ _ h => h) (Or.inl ⟨by rfl, ?_⟩) ?_ ?_
                              rotate_left
                              · intro w'
                                go_simp
                                with_reducible rfl
                              rotate_left
                              · simp only [Act.put, sA, sB, sC, i64_w, i32_w]
                                rfl
                              refine pure_ (i := 15) (N := some 80) (v := ?_) (a' := ?_) (bs 31 50687) rfl rfl (any_of HT_.out (by kernel_rfl)) (fun _ _ _ h => h) (Or.inl ⟨by rfl, ?_⟩) ?_ ?_
                              rotate_left
                              · intro w'
                                go_simp
                                with_reducible rfl
                              rotate_left
                              · simp only [Act.put, sA, sB, sC, i64_w, i32_w]
                                rfl
                              refine take_ (i := 9) (N := some 74) (v := ?_) (a' := ?_) (bs 31 51199) rfl rfl (take_ofW HT_.out HW_.out (by kernel_rfl)) (fun _ _ _ h => h) (Or.inl ⟨by rfl, ?_⟩) hHeld ?_ ?_
                              rotate_left
                              · rintro w' ⟨s0, s1, s2, s3, s4, s5, s6, s7, s8, s9, s10, s11, s12, s13, s14, s15, s16, s17, s18, s19, s20, s21, s22, s23, s24, s25, s26, s27⟩
                                go_simp
                                with_reducible rfl
                              rotate_left
                              · simp only [Act.put, sA, sB, sC, i64_w, i32_w]
                                rfl
                              refine pure_ (i := 11) (N := some 76) (v := ?_) (a' := ?_) (bs 31 53247) rfl rfl (any_of HT_.out (by kernel_rfl)) (fun _ _ _ h => h) (Or.inl ⟨by rfl, ?_⟩) ?_ ?_
                              rotate_left
                              · intro w'
                                go_simp
                                with_reducible rfl
                              rotate_left
                              · simp only [Act.put, sA, sB, sC, i64_w, i32_w]
                                rfl
                              refine pure_ (i := 12) (N := some 77) (v := ?_) (a' := ?_) (bs 31 57343) rfl rfl (any_of HT_.out (by kernel_rfl)) (fun _ _ _ h => h) (Or.inl ⟨by rfl, ?_⟩) ?_ ?_
                              rotate_left
                              · intro w'
                                go_simp
                                with_reducible rfl
                              rotate_left
                              · simp only [Act.put, sA, sB, sC, i64_w, i32_w]
                                rfl
                              refine take_ (i := 13) (N := some 78) (v := ?_) (a' := ?_) (bs 31 65535) rfl rfl (take_ofW HT_.out HW_.out (by kernel_rfl)) (fun _ _ _ h => h) (Or.inl ⟨by rfl, ?_⟩) hHeld ?_ ?_
                              rotate_left
                              · rintro w' ⟨s0, s1, s2, s3, s4, s5, s6, s7, s8, s9, s10, s11, s12, s13, s14, s15, s16, s17, s18, s19, s20, s21, s22, s23, s24, s25, s26, s27⟩
                                go_simp
                                with_reducible rfl
                              rotate_left
                              · simp only [Act.put, sA, sB, sC, i64_w, i32_w]
                                rfl
                              refine take_ (i := 16) (N := some 81) (v := ?_) (a' := ?_) (bs 31 131071) rfl rfl (take_ofW HT_.out HW_.out (by kernel_rfl)) (fun _ _ _ h => h) (Or.inl ⟨by rfl, ?_⟩) hHeld ?_ ?_
                              rotate_left
                              · rintro w' ⟨s0, s1, s2, s3, s4, s5, s6, s7, s8, s9, s10, s11, s12, s13, s14, s15, s16, s17, s18, s19, s20, s21, s22, s23, s24, s25, s26, s27⟩
                                go_simp
                                with_reducible rfl
                              rotate_left
                              · simp only [Act.put, sA, sB, sC, i64_w, i32_w]
                                rfl
                              refine pure_ (i := 17) (N := some 82) (v := ?_) (a' := ?_) (bs 31 262143) rfl rfl (any_of HT_.out (by kernel_rfl)) (fun _ _ _ h => h) (Or.inl ⟨by rfl, ?_⟩) ?_ ?_
                              rotate_left
                              · intro w'
                                go_simp
                                with_reducible rfl
                              rotate_left
                              · simp only [Act.put, sA, sB, sC, i64_w, i32_w]
                                rfl
                              refine pure_ (i := 18) (N := some 83) (v := ?_) (a' := ?_) (bs 31 524287) rfl rfl (any_of HT_.out (by kernel_rfl)) (fun _ _ _ h => h) (Or.inl ⟨by rfl, ?_⟩) ?_ ?_
                              rotate_left
                              · intro w'
                                go_simp
                                with_reducible rfl
                              rotate_left
                              · simp only [Act.put, sA, sB, sC, i64_w, i32_w]
                                rfl
                              refine pure_ (i := 19) (N := some 84) (v := ?_) (a' := ?_) (bs 31 1048575) rfl rfl (any_of HT_.out (by kernel_rfl)) (fun _ _ _ h => h) (Or.inl ⟨by rfl, ?_⟩) ?_ ?_
                              rotate_left
                              · intro w'
                                go_simp
                                with_reducible rfl
                              rotate_left
                              · simp only [Act.put, sA, sB, sC, i64_w, i32_w]
                                rfl
                              refine pure_ (i := 20) (N := some 85) (v := undef) (a' := ?_) (bs 31 2097151) rfl rfl (any_of HT_.out (by kernel_rfl)) (fun _ _ _ h => h) (Or.inr ⟨by rfl, rfl⟩) ?_ ?_
                              rotate_left
                              · simp only [Act.put, sA, sB, sC, i64_w, i32_w]
                                rfl
                              refine pure_ (i := 21) (N := some 86) (v := undef) (a' := ?_) (bs 31 4194303) rfl rfl (any_of HT_.out (by kernel_rfl)) (fun _ _ _ h => h) (Or.inr ⟨by rfl, rfl⟩) ?_ ?_
                              rotate_left
                              · simp only [Act.put, sA, sB, sC, i64_w, i32_w]
                                rfl
                              refine pure_ (i := 22) (N := some 87) (v := undef) (a' := ?_) (bs 31 8388607) rfl rfl (any_of HT_.out (by kernel_rfl)) (fun _ _ _ h => h) (Or.inr ⟨by rfl, rfl⟩) ?_ ?_
                              rotate_left
                              · simp only [Act.put, sA, sB, sC, i64_w, i32_w]
                                rfl
                              refine pure_ (i := 23) (N := some 88) (v := undef) (a' := ?_) (bs 31 16777215) rfl rfl (any_of HT_.out (by kernel_rfl)) (fun _ _ _ h => h) (Or.inr ⟨by rfl, rfl⟩) ?_ ?_
                              rotate_left
                              · simp only [Act.put, sA, sB, sC, i64_w, i32_w]
                                rfl
                              refine pure_ (i := 24) (N := some 89) (v := undef) (a' := ?_) (bs 31 33554431) rfl rfl (any_of HT_.out (by kernel_rfl)) (fun _ _ _ h => h) (Or.inr ⟨by rfl, rfl⟩) ?_ ?_
                              rotate_left
                              · simp only [Act.put, sA, sB, sC, i64_w, i32_w]
                                rfl
                              refine pure_ (i := 25) (N := some 90) (v := undef) (a' := ?_) (bs 31 67108863) rfl rfl (any_of HT_.out (by kernel_rfl)) (fun _ _ _ h => h) (Or.inr ⟨by rfl, rfl⟩) ?_ ?_
                              rotate_left
                              · simp only [Act.put, sA, sB, sC, i64_w, i32_w]
                                rfl
                              refine pure_ (i := 26) (N := some 91) (v := undef) (a' := ?_) (bs 31 134217727) rfl rfl (any_of HT_.out (by kernel_rfl)) (fun _ _ _ h => h) (Or.inr ⟨by rfl, rfl⟩) ?_ ?_
                              rotate_left
                              · simp only [Act.put, sA, sB, sC, i64_w, i32_w]
                                rfl
                              refine pure_ (i := 27) (N := some 92) (v := undef) (a' := ?_) (bs 31 268435455) rfl rfl (any_of HT_.out (by kernel_rfl)) (fun _ _ _ h => h) (Or.inr ⟨by rfl, rfl⟩) ?_ ?_
                              rotate_left
                              · simp only [Act.put, sA, sB, sC, i64_w, i32_w]
                                rfl
                              refine pure_ (i := 28) (N := some 93) (v := undef) (a' := ?_) (bs 31 536870911) rfl rfl (any_of HT_.out (by kernel_rfl)) (fun _ _ _ h => h) (Or.inr ⟨by rfl, rfl⟩) ?_ ?_
                              rotate_left
                              · simp only [Act.put, sA, sB, sC, i64_w, i32_w]
                                rfl
                              refine pure_ (i := 29) (N := some 94) (v := undef) (a' := ?_) (bs 31 1073741823) rfl rfl (any_of HT_.out (by kernel_rfl)) (fun _ _ _ h => h) (Or.inr ⟨by rfl, rfl⟩) ?_ ?_
                              rotate_left
                              · simp only [Act.put, sA, sB, sC, i64_w, i32_w]
                                rfl
                              refine pure_ (i := 30) (N := some 95) (v := ?_) (a' := ?_) (bs 31 2147483647) rfl rfl (any_of HT_.out (by kernel_rfl)) (fun _ _ _ h => h) (Or.inl ⟨by rfl, ?_⟩) ?_ ?_
                              rotate_left
                              · intro w'
                                go_simp
                                with_reducible rfl
                              rotate_left
                              · simp only [Act.put, sA, sB, sC, i64_w, i32_w]
                                rfl
                              refine done_ (done_of HT_.out (by kernel_rfl)) ?_
                              try go_wp2
                              go_roundg k3
                              case measure => have := HK1.out; have := HJ14.out; have := HK3.out; omega
                              case rel => exact ⟨(wrap64 (aC + 1)), (by first | rfl | (simp; done) | (simp [*]; done)), H', ⟨by have := HK1.out; have := HJ14.out; have := HK3.out; omega⟩, ⟨by refine mV ?_; exact aE.out⟩, ⟨by refine mR ?_; exact aH.out⟩, ⟨by refine mR ?_; exact aG.out⟩, ⟨by refine mK ?_; exact aB.out⟩, ⟨kB HB.out⟩⟩
                          · rw [if_neg c50] at H
                            have eP : (((rd_T53 aF aC).f0) == 10) = false := beq_eq_false_iff_ne.mpr c50
                            have eQ : (((rd_T53 aF aC).f0) != 10) = true := bne_iff_ne.mpr c50
                            have H' := Aside0.mk H
                            clear H
                            obtain ⟨hD, hE, hF, hG, hH, hI, hJ, hL, hM, hN, e9, fA⟩ := cz12 aB.out
                            obtain ⟨hO, hP, hQ, hR, hS, hT, hU, hV, hW, hX, fB, fC⟩ := fz12 aB.out
                            try go_wp2
                            have n0_ := Aside0.mk (Kd.V_drew aE.out)
                            have n1_ := Aside0.mk (Kd.R_drew aH.out)
                            have n2_ := Aside0.mk (Kd.R_drew aG.out)
                            have n3_ := Aside0.mk (blk_drew aB.out)
                            have n4_ := Aside0.mk (below_drew1 HB.out)
                            clear aE
                            clear aH
                            clear aG
                            clear aB
                            clear HB
                            have aE := n0_
                            have aH := n1_
                            have aG := n2_
                            have aB := n3_
                            have HB := n4_
                            clear n0_ n1_ n2_ n3_ n4_
                            have p734 : 0 ≤ (aC : Int) := of_decide_eq_true (by first | (with_reducible assumption) | assumption)
                            have q734 : aC < (aF.length : Int) := of_decide_eq_true (by first | (with_reducible assumption) | assumption)
                            obtain ⟨aD, e734, bT, bU, bV, bW, bX, bY, bZ, b0⟩ := at_T53 (Kd.R_reads' aG.out).2.2 aC p734 q734
                            cases e734
                            replace p734 := eq_true p734
                            replace q734 := eq_true q734
                            refine start_ (n := 31) (S := fun w' => w'.cell? ⟨aA, 0, none⟩ = some (.int .i64 aK) ∧ w'.cell? ⟨aA, 1, none⟩ = some (.int .i64 aO) ∧ w'.cell? ⟨aA, 2, none⟩ = some (.slice aX aJ.length aY) ∧ w'.cell? ⟨aA, 3, none⟩ = some (.int .i64 aM) ∧ w'.cell? ⟨aA, 4, none⟩ = some (.int .i64 aP) ∧ w'.cell? ⟨aA, 5, none⟩ = some (.int .i64 aL) ∧ w'.cell? ⟨aA, 6, none⟩ = some (.int .i64 aW) ∧ w'.cell? ⟨aA, 7, none⟩ = some (.int .i64 aQ) ∧ w'.cell? ⟨aA, 8, none⟩ = some (.int .i64 aU) ∧ w'.cell? ⟨aA, 9, none⟩ = some (.slice aR aI.length aS) ∧ w'.cell? ⟨aA, 10, none⟩ = some (.slice (some aD) aF.length aT) ∧ w'.cell? ⟨aA, 11, none⟩ = some (.bool b1) ∧ w'.cell? (aD.add ((aC).toNat * 8)) = some (.int .i64 ((rd_T53 aF aC).f0)) ∧ w'.cell? ⟨(aD.add ((aC).toNat * 8)).block, (aD.add ((aC).toNat * 8)).off + 1, none⟩ = some (.int .i64 ((rd_T53 aF aC).f1)) ∧ w'.cell? ⟨(aD.add ((aC).toNat * 8)).block, (aD.add ((aC).toNat * 8)).off + 2, none⟩ = some (.int .i64 ((rd_T53 aF aC).f2)) ∧ w'.cell? ⟨(aD.add ((aC).toNat * 8)).block, (aD.add ((aC).toNat * 8)).off + 3, none⟩ = some (.int .i64 ((rd_T53 aF aC).f3)) ∧ w'.cell? ⟨(aD.add ((aC).toNat * 8)).block, (aD.add ((aC).toNat * 8)).off + 4, none⟩ = some (.int .i64 ((rd_T53 aF aC).f4)) ∧ w'.cell? ⟨(aD.add ((aC).toNat * 8)).block, (aD.add ((aC).toNat * 8)).off + 5, none⟩ = some (.int .i64 ((rd_T53 aF aC).f5)) ∧ w'.cell? ⟨(aD.add ((aC).toNat * 8)).block, (aD.add ((aC).toNat * 8)).off + 6, none⟩ = some (.slice none 0 0) ∧ w'.cell? ⟨(aD.add ((aC).toNat * 8)).block, (aD.add ((aC).toNat * 8)).off + 7, none⟩ = some (.slice none 0 0)) (ds := []) #[false, false, false, false, false, false, false, false, false, false, false, false, false, false, false, false, false, false, false, false, false, false, false, false, false, false, false, false, false, false, false] (by kernel_rfl) rfl rfl (ct12 aB.out ⟨bT, bU, bV, bW, bX, bY, bZ, b0⟩) (fun hHeld => ?_); refine with_tabW standbylaw32_CommitSafe.tab14 standbylaw32_CommitSafe.bits14 (fun HT_ HW_ => ?_)
                            generalize wr.drew = w58 at aE aH aG aB HB bT bU bV bW bX bY bZ b0 hHeld ⊢
                            refine pure_ (i := 0) (N := some 65) (v := ?_) (a' := ?_) (bs 31 1) rfl rfl (any_of HT_.out (by kernel_rfl)) (fun _ _ _ h => h) (Or.inl ⟨by rfl, ?_⟩) ?_ ?_
                            rotate_left
                            · intro w'
                              go_simp
                              with_reducible rfl
                            rotate_left
                            · simp only [Act.put, sA, sB, sC, i64_w, i32_w]
                              rfl
                            refine pure_ (i := 2) (N := some 67) (v := ?_) (a' := ?_) (bs 31 5) rfl rfl (any_of HT_.out (by kernel_rfl)) (fun _ _ _ h => h) (Or.inl ⟨by rfl, ?_⟩) ?_ ?_
                            rotate_left
                            · intro w'
                              go_simp
                              with_reducible rfl
                            rotate_left
                            · simp only [Act.put, sA, sB, sC, i64_w, i32_w]
                              rfl
                            refine take_ (i := 1) (N := some 66) (v := ?_) (a' := ?_) (bs 31 7) rfl rfl (take_ofW HT_.out HW_.out (by kernel_rfl)) (fun _ _ _ h => h) (Or.inl ⟨by rfl, ?_⟩) hHeld ?_ ?_
                            rotate_left
                            · rintro w' ⟨s0, s1, s2, s3, s4, s5, s6, s7, s8, s9, s10, s11, s12, s13, s14, s15, s16, s17, s18, s19⟩
                              go_simp
                              with_reducible rfl
                            rotate_left
                            · simp only [Act.put, sA, sB, sC, i64_w, i32_w]
                              rfl
                            refine pure_ (i := 3) (N := some 68) (v := ?_) (a' := ?_) (bs 31 15) rfl rfl (any_of HT_.out (by kernel_rfl)) (fun _ _ _ h => h) (Or.inl ⟨by rfl, ?_⟩) ?_ ?_
                            rotate_left
                            · intro w'
                              go_simp
                              with_reducible rfl
                            rotate_left
                            · simp only [Act.put, sA, sB, sC, i64_w, i32_w]
                              rfl
                            refine pure_ (i := 4) (N := some 69) (v := ?_) (a' := ?_) (bs 31 31) rfl rfl (any_of HT_.out (by kernel_rfl)) (fun _ _ _ h => h) (Or.inl ⟨by rfl, ?_⟩) ?_ ?_
                            rotate_left
                            · intro w'
                              go_simp
                              with_reducible rfl
                            rotate_left
                            · simp only [Act.put, sA, sB, sC, i64_w, i32_w]
                              rfl
                            refine take_ (i := 5) (N := some 70) (v := ?_) (a' := ?_) (bs 31 63) rfl rfl (take_ofW HT_.out HW_.out (by kernel_rfl)) (fun _ _ _ h => h) (Or.inl ⟨by rfl, ?_⟩) hHeld ?_ ?_
                            rotate_left
                            · rintro w' ⟨s0, s1, s2, s3, s4, s5, s6, s7, s8, s9, s10, s11, s12, s13, s14, s15, s16, s17, s18, s19⟩
                              go_simp
                              with_reducible rfl
                            rotate_left
                            · simp only [Act.put, sA, sB, sC, i64_w, i32_w]
                              rfl
                            refine pure_ (i := 6) (N := some 71) (v := ?_) (a' := ?_) (bs 31 127) rfl rfl (any_of HT_.out (by kernel_rfl)) (fun _ _ _ h => h) (Or.inl ⟨by rfl, ?_⟩) ?_ ?_
                            rotate_left
                            · intro w'
                              go_simp
                              with_reducible rfl
                            rotate_left
                            · simp only [Act.put, sA, sB, sC, i64_w, i32_w]
                              rfl
                            refine pure_ (i := 7) (N := some 72) (v := ?_) (a' := ?_) (bs 31 255) rfl rfl (any_of HT_.out (by kernel_rfl)) (fun _ _ _ h => h) (Or.inl ⟨by rfl, ?_⟩) ?_ ?_
                            rotate_left
                            · intro w'
                              go_simp
                              with_reducible rfl
                            rotate_left
                            · simp only [Act.put, sA, sB, sC, i64_w, i32_w]
                              rfl
                            refine pure_ (i := 8) (N := some 73) (v := undef) (a' := ?_) (bs 31 511) rfl rfl (any_of HT_.out (by kernel_rfl)) (fun _ _ _ h => h) (Or.inr ⟨by rfl, rfl⟩) ?_ ?_
                            rotate_left
                            · simp only [Act.put, sA, sB, sC, i64_w, i32_w]
                              rfl
                            refine pure_ (i := 9) (N := some 74) (v := undef) (a' := ?_) (bs 31 1023) rfl rfl (any_of HT_.out (by kernel_rfl)) (fun _ _ _ h => h) (Or.inr ⟨by rfl, rfl⟩) ?_ ?_
                            rotate_left
                            · simp only [Act.put, sA, sB, sC, i64_w, i32_w]
                              rfl
                            refine pure_ (i := 10) (N := some 75) (v := undef) (a' := ?_) (bs 31 2047) rfl rfl (any_of HT_.out (by kernel_rfl)) (fun _ _ _ h => h) (Or.inr ⟨by rfl, rfl⟩) ?_ ?_
                            rotate_left
                            · simp only [Act.put, sA, sB, sC, i64_w, i32_w]
                              rfl
                            refine pure_ (i := 11) (N := some 76) (v := undef) (a' := ?_) (bs 31 4095) rfl rfl (any_of HT_.out (by kernel_rfl)) (fun _ _ _ h => h) (Or.inr ⟨by rfl, rfl⟩) ?_ ?_
                            rotate_left
                            · simp only [Act.put, sA, sB, sC, i64_w, i32_w]
                              rfl
                            refine pure_ (i := 12) (N := some 77) (v := undef) (a' := ?_) (bs 31 8191) rfl rfl (any_of HT_.out (by kernel_rfl)) (fun _ _ _ h => h) (Or.inr ⟨by rfl, rfl⟩) ?_ ?_
                            rotate_left
                            · simp only [Act.put, sA, sB, sC, i64_w, i32_w]
                              rfl
                            refine pure_ (i := 13) (N := some 78) (v := undef) (a' := ?_) (bs 31 16383) rfl rfl (any_of HT_.out (by kernel_rfl)) (fun _ _ _ h => h) (Or.inr ⟨by rfl, rfl⟩) ?_ ?_
                            rotate_left
                            · simp only [Act.put, sA, sB, sC, i64_w, i32_w]
                              rfl
                            refine pure_ (i := 14) (N := some 79) (v := undef) (a' := ?_) (bs 31 32767) rfl rfl (any_of HT_.out (by kernel_rfl)) (fun _ _ _ h => h) (Or.inr ⟨by rfl, rfl⟩) ?_ ?_
                            rotate_left
                            · simp only [Act.put, sA, sB, sC, i64_w, i32_w]
                              rfl
                            refine pure_ (i := 15) (N := some 80) (v := undef) (a' := ?_) (bs 31 65535) rfl rfl (any_of HT_.out (by kernel_rfl)) (fun _ _ _ h => h) (Or.inr ⟨by rfl, rfl⟩) ?_ ?_
                            rotate_left
                            · simp only [Act.put, sA, sB, sC, i64_w, i32_w]
                              rfl
                            refine pure_ (i := 16) (N := some 81) (v := undef) (a' := ?_) (bs 31 131071) rfl rfl (any_of HT_.out (by kernel_rfl)) (fun _ _ _ h => h) (Or.inr ⟨by rfl, rfl⟩) ?_ ?_
                            rotate_left
                            · simp only [Act.put, sA, sB, sC, i64_w, i32_w]
                              rfl
                            refine pure_ (i := 17) (N := some 82) (v := undef) (a' := ?_) (bs 31 262143) rfl rfl (any_of HT_.out (by kernel_rfl)) (fun _ _ _ h => h) (Or.inr ⟨by rfl, rfl⟩) ?_ ?_
                            rotate_left
                            · simp only [Act.put, sA, sB, sC, i64_w, i32_w]
                              rfl
                            refine pure_ (i := 18) (N := some 83) (v := ?_) (a' := ?_) (bs 31 524287) rfl rfl (any_of HT_.out (by kernel_rfl)) (fun _ _ _ h => h) (Or.inl ⟨by rfl, ?_⟩) ?_ ?_
                            rotate_left
                            · intro w'
                              go_simp
                              with_reducible rfl
                            rotate_left
                            · simp only [Act.put, sA, sB, sC, i64_w, i32_w]
                              rfl
                            refine pure_ (i := 19) (N := some 84) (v := ?_) (a' := ?_) (bs 31 1048575) rfl rfl (any_of HT_.out (by kernel_rfl)) (fun _ _ _ h => h) (Or.inl ⟨by rfl, ?_⟩) ?_ ?_
                            rotate_left
                            · intro w'
                              go_simp
                              with_reducible rfl
                            rotate_left
                            · simp only [Act.put, sA, sB, sC, i64_w, i32_w]
                              rfl
                            refine pure_ (i := 20) (N := some 85) (v := undef) (a' := ?_) (bs 31 2097151) rfl rfl (any_of HT_.out (by kernel_rfl)) (fun _ _ _ h => h) (Or.inr ⟨by rfl, rfl⟩) ?_ ?_
                            rotate_left
                            · simp only [Act.put, sA, sB, sC, i64_w, i32_w]
                              rfl
                            refine pure_ (i := 21) (N := some 86) (v := undef) (a' := ?_) (bs 31 4194303) rfl rfl (any_of HT_.out (by kernel_rfl)) (fun _ _ _ h => h) (Or.inr ⟨by rfl, rfl⟩) ?_ ?_
                            rotate_left
                            · simp only [Act.put, sA, sB, sC, i64_w, i32_w]
                              rfl
                            refine pure_ (i := 22) (N := some 87) (v := undef) (a' := ?_) (bs 31 8388607) rfl rfl (any_of HT_.out (by kernel_rfl)) (fun _ _ _ h => h) (Or.inr ⟨by rfl, rfl⟩) ?_ ?_
                            rotate_left
                            · simp only [Act.put, sA, sB, sC, i64_w, i32_w]
                              rfl
                            refine pure_ (i := 23) (N := some 88) (v := undef) (a' := ?_) (bs 31 16777215) rfl rfl (any_of HT_.out (by kernel_rfl)) (fun _ _ _ h => h) (Or.inr ⟨by rfl, rfl⟩) ?_ ?_
                            rotate_left
                            · simp only [Act.put, sA, sB, sC, i64_w, i32_w]
                              rfl
                            refine pure_ (i := 24) (N := some 89) (v := undef) (a' := ?_) (bs 31 33554431) rfl rfl (any_of HT_.out (by kernel_rfl)) (fun _ _ _ h => h) (Or.inr ⟨by rfl, rfl⟩) ?_ ?_
                            rotate_left
                            · simp only [Act.put, sA, sB, sC, i64_w, i32_w]
                              rfl
                            refine pure_ (i := 25) (N := some 90) (v := undef) (a' := ?_) (bs 31 67108863) rfl rfl (any_of HT_.out (by kernel_rfl)) (fun _ _ _ h => h) (Or.inr ⟨by rfl, rfl⟩) ?_ ?_
                            rotate_left
                            · simp only [Act.put, sA, sB, sC, i64_w, i32_w]
                              rfl
                            refine pure_ (i := 26) (N := some 91) (v := undef) (a' := ?_) (bs 31 134217727) rfl rfl (any_of HT_.out (by kernel_rfl)) (fun _ _ _ h => h) (Or.inr ⟨by rfl, rfl⟩) ?_ ?_
                            rotate_left
                            · simp only [Act.put, sA, sB, sC, i64_w, i32_w]
                              rfl
                            refine pure_ (i := 27) (N := some 92) (v := undef) (a' := ?_) (bs 31 268435455) rfl rfl (any_of HT_.out (by kernel_rfl)) (fun _ _ _ h => h) (Or.inr ⟨by rfl, rfl⟩) ?_ ?_
                            rotate_left
                            · simp only [Act.put, sA, sB, sC, i64_w, i32_w]
                              rfl
                            refine pure_ (i := 28) (N := some 93) (v := undef) (a' := ?_) (bs 31 536870911) rfl rfl (any_of HT_.out (by kernel_rfl)) (fun _ _ _ h => h) (Or.inr ⟨by rfl, rfl⟩) ?_ ?_
                            rotate_left
                            · simp only [Act.put, sA, sB, sC, i64_w, i32_w]
                              rfl
                            refine pure_ (i := 29) (N := some 94) (v := undef) (a' := ?_) (bs 31 1073741823) rfl rfl (any_of HT_.out (by kernel_rfl)) (fun _ _ _ h => h) (Or.inr ⟨by rfl, rfl⟩) ?_ ?_
                            rotate_left
                            · simp only [Act.put, sA, sB, sC, i64_w, i32_w]
                              rfl
                            refine pure_ (i := 30) (N := some 95) (v := ?_) (a' := ?_) (bs 31 2147483647) rfl rfl (any_of HT_.out (by kernel_rfl)) (fun _ _ _ h => h) (Or.inl ⟨by rfl, ?_⟩) ?_ ?_
                            rotate_left
                            · intro w'
                              go_simp
                              with_reducible rfl
                            rotate_left
                            · simp only [Act.put, sA, sB, sC, i64_w, i32_w]
                              rfl
                            refine done_ (done_of HT_.out (by kernel_rfl)) ?_
                            try go_wp2
                            go_roundg k3
                            case measure => have := HK1.out; have := HJ14.out; have := HK3.out; omega
                            case rel => exact ⟨(wrap64 (aC + 1)), (by first | rfl | (simp; done) | (simp [*]; done)), H', ⟨by have := HK1.out; have := HJ14.out; have := HK3.out; omega⟩, ⟨by refine mV ?_; exact aE.out⟩, ⟨by refine mR ?_; exact aH.out⟩, ⟨by refine mR ?_; exact aG.out⟩, ⟨by refine mK ?_; exact aB.out⟩, ⟨kB HB.out⟩⟩
                        · rw [if_neg c49] at H
                          exact absurd H (by simp)
                      · rw [if_neg c48] at H
                        have eO : decide (aC < (aF.length : Int)) = false := decide_eq_false c48
                        clear c48
                        have H' := Aside0.mk H
                        clear H
                        obtain ⟨hY, hZ, h0, h1, h2, h3, h4, h5, h6, h7, fD, fE⟩ := cz12 aB.out
                        obtain ⟨h8, h9, iA, iB, iC, iD, iE, iF, iG, iH, fF, fG⟩ := fz12 aB.out
                        go_wp2
                        go_roundg k3
                        case measure => have := HK1.out; have := HJ14.out; have := HK3.out; omega
                        case rel => exact ⟨(wrap64 (a5 + 1)), (aK), (aO), (aJ), (aM), (aP), (aL), (aW), (aQ), (aU), (aI), (aF), (b1), (.slice aX aJ.length aY), (.slice aR aI.length aS), (.slice aV aF.length aT), (by first | rfl | (simp; done) | (simp [*]; done)), H', ⟨by have := HK1.out; have := HJ14.out; have := HK3.out; omega⟩, ⟨by refine mV ?_; exact aE.out⟩, ⟨by refine mR ?_; exact aH.out⟩, ⟨by refine mR ?_; exact aG.out⟩, ⟨by refine mK ?_; exact aB.out⟩, ⟨kB HB.out⟩⟩
          · rw [if_neg c13] at H
            exact absurd H (by simp)
        · rw [if_neg c12] at H
          have eN : decide (a5 < (l0.length : Int)) = false := decide_eq_false c12
          clear c12
          replace H := Option.bind_eq_some_iff.mp H
          obtain ⟨dH, A600, H⟩ := H
          replace H : (some dH) = some r := H
          have A60 := Aside0.mk A600
          clear A600
          obtain rfl := Option.some.inj H
          go_wp2_with (first | ((with_reducible refine gate_callee (f := 12) rfl ?_); refine goesL_ (some 96) rfl rfl Try.func12 (by kernel_rfl) rfl #[] rfl (by (try simp only [List.map_toArray, List.map_cons, List.map_nil]); first | done | rfl | (simp only [List.length_drop, List.length_take]; rfl)) ?_; (with_reducible refine (standbylaw32_awake.calls k1  dH _ A60.out).mono ?_); rintro e w61 ⟨rfl, hb⟩; refine ⟨_, rfl, ?_⟩; replace aE := tV aE hb; replace aH := tR aH hb; replace aG := tR aG hb; replace aB := tK aB hb; replace HB := tB HB hb; (try clear hb); (try clear hb2); (try clear hk); (try clear hi)))
          go_ret
          exact ⟨by first | rfl | (simp [errW_none, errW_some] <;> rfl) | (simp [*, errW_none, errW_some] <;> rfl), (kB HB.out)⟩

end Go.Proofs.Ytedoloapddmanaa.PB
