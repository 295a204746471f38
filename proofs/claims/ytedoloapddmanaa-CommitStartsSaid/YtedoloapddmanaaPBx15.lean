-- Written by a program of this session (wip/tools) over the kit's print.
import Derived.Test.YtedoloapddmanaaPBx0
import Derived.Test.YtedoloapddmanaaSh
import Derived.Test.YtedoloapddmanaaPBx1
import Derived.Test.YtedoloapddmanaaPBx2
import Derived.Test.YtedoloapddmanaaPBx3
import Derived.Test.YtedoloapddmanaaPBx11
import Derived.Test.YtedoloapddmanaaPBx12
import Derived.Test.YtedoloapddmanaaPBx13
import Derived.Test.YtedoloapddmanaaPBx14
namespace Go.Proofs.Ytedoloapddmanaa.PB
open Go.RowKit Go.Proofs.YtedoloapddmanaaW.PrintWords Go.Proofs.YtedoloapddmanaaW.PrintLast Go.Proofs.YtedoloapddmanaaW.PrintMore
attribute [local go_sem] max2_int min2_int max_two min_two max_three min_three max_four min_four   -- for this text's walks alone
set_option linter.unusedVariables false
set_option linter.unusedSimpArgs false
attribute [local go_sem high] eqA26
def standbylaw32_CommitStarts.f (k : Nat) (a0_0 : Int) (a0_1 : Int) (l0_2 : List Int) (a0_3 : Int) (a0_4 : Int) (a1_0 : Int) (a1_1 : Int) (a1_2 : Int) (a1_3 : Int) : Option (Bool) := if (l0_2.length : Int) > 1100 then ((standbylaw32_awake.f k).bind fun t267 => (some t267)) else ((commit_NewSource.f a0_0 a0_1 a0_4).bind fun bt268 => ((standbyref32_NewSource.f a0_0 a0_1 a0_4).bind fun bt277 => ((commit_NewTarget.f a1_0 a1_1 a1_3).bind fun bt286 => ((standbyref32_NewTarget.f a1_0 a1_1 a1_3).bind fun bt292 => ((standbylaw32_awake.f k).bind fun t298 => (if t298 = true then ((standbyref32_Same.f k bt268.1 bt268.2.1 bt268.2.2.1 bt268.2.2.2.1 bt268.2.2.2.2.1 bt277.1 bt277.2.1 bt277.2.2.1 bt277.2.2.2.1 bt277.2.2.2.2.1).bind fun t299 => (if t299 = true then (if bt268.2.2.2.2.2 = bt277.2.2.2.2.2 then (if (bt286.1 == bt292.1 && (bt286.2.1 == bt292.2.1 && (bt286.2.2.1 == bt292.2.2.1 && (bt286.2.2.2.1 == bt292.2.2.2.1)))) = true then (if bt286.2.2.2.2 = bt292.2.2.2.2 then ((commit_CheckSource.f k a0_0 a0_1 l0_2 a0_3 a0_4).bind fun t300 => ((standbyref32_CheckSource.f k a0_0 a0_1 l0_2 a0_3 a0_4).bind fun t301 => (if t300 = t301 then ((commit_CheckTarget.f k a1_0 a1_1 a1_2 a1_3).bind fun t302 => ((standbyref32_CheckTarget.f k a1_0 a1_1 a1_2 a1_3).bind fun t303 => (some (t302 == t303)))) else (none)))) else (none)) else (none)) else (none)) else (none))) else (none)))))))
theorem standbylaw32_CommitStarts.mono : ∀ a0 a1 a2 a3 a4 a5 a6 a7 a8 k, LeO (standbylaw32_CommitStarts.f k a0 a1 a2 a3 a4 a5 a6 a7 a8) (standbylaw32_CommitStarts.f (k + 1) a0 a1 a2 a3 a4 a5 a6 a7 a8) := by
  intro a0 a1 a2 a3 a4 a5 a6 a7 a8 k
  unfold standbylaw32_CommitStarts.f
  repeat' first
      | (with_reducible exact commit_CheckSource.mono _ _ _ _ _ _)
      | (with_reducible exact commit_CheckTarget.mono _ _ _ _ _)
      | (with_reducible exact standbylaw32_awake.mono _)
      | (with_reducible exact standbyref32_CheckSource.mono _ _ _ _ _ _)
      | (with_reducible exact standbyref32_CheckTarget.mono _ _ _ _ _)
      | (with_reducible exact standbyref32_Same.mono _ _ _ _ _ _ _ _ _ _ _)
      | (with_reducible exact LeO.refl _)
      | (with_reducible exact LeO.none _)
      | (with_reducible refine LeO.ite ?_ ?_)
      | (with_reducible refine LeO.bind ?_ (fun _ => ?_))
      | exact commit_CheckSource.mono _ _ _ _ _ _
      | exact commit_CheckTarget.mono _ _ _ _ _
      | exact standbylaw32_awake.mono _
      | exact standbyref32_CheckSource.mono _ _ _ _ _ _
      | exact standbyref32_CheckTarget.mono _ _ _ _ _
      | exact standbyref32_Same.mono _ _ _ _ _ _ _ _ _ _ _
      | exact LeO.none _
      | refine LeO.ite ?_ ?_
      | refine LeO.bind ?_ (fun _ => ?_)
def standbylaw32_CommitStarts.T7 : Bool × List (List Nat × List Nat) := (true, [([], []), ([0, 0], [0]), ([1], [1]), ([1], [1]), ([2, 3, 1, 1], [1, 2, 3]), ([1, 4], [1, 4]), ([5, 4], [5]), ([6], [6]), ([6], [6]), ([7, 8, 6], [6, 7, 8]), ([6, 9], [6, 9]), ([10, 6], [10]), ([11], [11]), ([11], [11]), ([12, 13, 11], [11, 12, 13]), ([11, 14], [11, 14]), ([15, 11], [15]), ([16], [16]), ([16], [16]), ([17, 18, 16], [16, 17, 18]), ([16, 19], [16, 19]), ([20, 16], [20]), ([21], [21]), ([22, 21, 21], [21, 22]), ([21], [21]), ([24, 23, 21], [21, 24]), ([23, 25, 21], [21, 23, 25]), ([21, 26], [21, 26]), ([27, 25], [27]), ([28], [28]), ([29, 28, 28], [28, 29]), ([28], [28]), ([31, 30, 28], [28, 31]), ([30, 32, 28], [28, 30, 32]), ([28, 33], [28, 33]), ([34, 32, 0, 1, 2, 3, 4, 5, 6, 7, 8, 9, 10, 11, 12, 13, 14, 15, 16, 17, 18, 19, 20, 21, 22, 23, 24, 25, 26, 27, 28, 29, 30, 31, 32, 33, 34], [34])])
def standbylaw32_CommitStarts.B7 : List Nat := [0, 1, 3, 3, 15, 31, 63, 127, 127, 511, 1023, 2047, 4095, 4095, 16383, 32767, 65535, 131071, 131071, 524287, 1048575, 2097151, 4194303, 8388607, 4194303, 33554431, 67108863, 134217727, 268435455, 536870911, 1073741823, 536870911, 4294967295, 8589934591, 17179869183, 34359738367]
theorem standbylaw32_CommitStarts.tab7 : rtab .any (opsOf Try.f3 7) = standbylaw32_CommitStarts.T7 := by kernel_rfl
theorem standbylaw32_CommitStarts.bits7 : waitsOk standbylaw32_CommitStarts.T7.2 standbylaw32_CommitStarts.B7 = true := by kernel_rfl
set_option maxHeartbeats 8000000 in
set_option maxRecDepth 100000 in
theorem standbylaw32_CommitStarts.calls (k : Nat) (a0_0 : Int) (a0_1 : Int) (A0_2 : Option Addr) (c0_2 : Nat) (l0_2 : List Int) (a0_3 : Int) (a0_4 : Int) (a1_0 : Int) (a1_1 : Int) (a1_2 : Int) (a1_3 : Int) (r : Bool) (w : World) (hr0_2 : Kd.C (Kd.int .i64) w A0_2 l0_2.length l0_2) (hc0_2 : l0_2.length ≤ c0_2) (h : standbylaw32_CommitStarts.f k a0_0 a0_1 l0_2 a0_3 a0_4 a1_0 a1_1 a1_2 a1_3 = some r) :
    Calls Try.prog 3 #[.agg #[.int .i64 a0_0, .int .i64 a0_1, .slice A0_2 l0_2.length c0_2, .int .i64 a0_3, .int .i64 a0_4], .agg #[.int .i64 a1_0, .int .i64 a1_1, .int .i64 a1_2, .int .i64 a1_3]] w fun e w' => e = .returned (.bool r) ∧ Below w.heap.size w w' := by
  have hu24 := Try.underlying24
  have hu26 := Try.underlying26
  have HR0_2 := Aside0.mk hr0_2
  have HC0_2 := Aside0.mk hc0_2
  clear hr0_2 hc0_2
  have HB := Aside0.mk (Below.refl w.heap.size w)
  have H : (if (l0_2.length : Int) > 1100 then ((standbylaw32_awake.f k).bind fun t267 => (some t267)) else ((commit_NewSource.f a0_0 a0_1 a0_4).bind fun bt268 => ((standbyref32_NewSource.f a0_0 a0_1 a0_4).bind fun bt277 => ((commit_NewTarget.f a1_0 a1_1 a1_3).bind fun bt286 => ((standbyref32_NewTarget.f a1_0 a1_1 a1_3).bind fun bt292 => ((standbylaw32_awake.f k).bind fun t298 => (if t298 = true then ((standbyref32_Same.f k bt268.1 bt268.2.1 bt268.2.2.1 bt268.2.2.2.1 bt268.2.2.2.2.1 bt277.1 bt277.2.1 bt277.2.2.1 bt277.2.2.2.1 bt277.2.2.2.2.1).bind fun t299 => (if t299 = true then (if bt268.2.2.2.2.2 = bt277.2.2.2.2.2 then (if (bt286.1 == bt292.1 && (bt286.2.1 == bt292.2.1 && (bt286.2.2.1 == bt292.2.2.1 && (bt286.2.2.2.1 == bt292.2.2.2.1)))) = true then (if bt286.2.2.2.2 = bt292.2.2.2.2 then ((commit_CheckSource.f k a0_0 a0_1 l0_2 a0_3 a0_4).bind fun t300 => ((standbyref32_CheckSource.f k a0_0 a0_1 l0_2 a0_3 a0_4).bind fun t301 => (if t300 = t301 then ((commit_CheckTarget.f k a1_0 a1_1 a1_2 a1_3).bind fun t302 => ((standbyref32_CheckTarget.f k a1_0 a1_1 a1_2 a1_3).bind fun t303 => (some (t302 == t303)))) else (none)))) else (none)) else (none)) else (none)) else (none))) else (none)))))))) = some r := h
  clear h
  by_cases c3 : (l0_2.length : Int) > 1100
  · rw [if_pos c3] at H
    have c3b0 : decide (1100 < (l0_2.length : Int)) = true := decide_eq_true c3
    have c3b1 : decide (1100 < l0_2.length) = true := decide_eq_true (by omega)
    clear c3
    replace H := Option.bind_eq_some_iff.mp H
    obtain ⟨t267, A40, H⟩ := H
    replace H : (some t267) = some r := H
    have A4 := Aside0.mk A40
    clear A40
    obtain rfl := Option.some.inj H
    go_enter Try.func3, Try.ntmps3
    go_wp2_with (first | ((with_reducible refine gate_dst (N := 2) rfl ?_); refine box_event ?hg (N := 2) ?hd (cs := #[.int .i64 a0_0, .int .i64 a0_1, .slice A0_2 l0_2.length c0_2, .int .i64 a0_3, .int .i64 a0_4]) (t := 24) ?hr ?_; (case hd => rfl); (case hg => rfl); (case hr => first | (go_simp; done) | (go_simp; rfl)); intro gb265 hg w5 hbox hb; have BK265 := Aside0.mk (hbox); have GW265 := gZ HB hg; have GE265 := gZ HB hg; replace HB := tB HB hb; clear hb hbox hg) | ((with_reducible refine gate_dst (N := 3) rfl ?_); refine box_event ?hg (N := 3) ?hd (cs := #[.int .i64 a1_0, .int .i64 a1_1, .int .i64 a1_2, .int .i64 a1_3]) (t := 26) ?hr ?_; (case hd => rfl); (case hg => rfl); (case hr => first | (go_simp; done) | (go_simp; rfl)); intro gb266 hg w6 hbox hb; have BK266 := Aside0.mk (hbox); have GW266 := gZ HB hg; have GE266 := gZ HB hg; replace HB := tB HB hb; have NB265_266 := Aside0.mk ((by rw [hg]; exact Nat.ne_of_lt (blk_lt (g := gb265) (o := .cells #[.int .i64 a0_0, .int .i64 a0_1, .slice A0_2 l0_2.length c0_2, .int .i64 a0_3, .int .i64 a0_4] 24 (0, 0)) (by (with_reducible repeat (first | refine blk_drewN ?_ _ | refine blk_drew ?_ | refine blk_alloc ?_ _)); exact BK265.out)) : gb265 ≠ gb266)); have NB266_265 := Aside0.mk ((by rw [hg]; exact Nat.ne_of_gt (blk_lt (g := gb265) (o := .cells #[.int .i64 a0_0, .int .i64 a0_1, .slice A0_2 l0_2.length c0_2, .int .i64 a0_3, .int .i64 a0_4] 24 (0, 0)) (by (with_reducible repeat (first | refine blk_drewN ?_ _ | refine blk_drew ?_ | refine blk_alloc ?_ _)); exact BK265.out)) : gb266 ≠ gb265)); replace BK265 := Aside0.mk (blk_below (g := gb265) (o := .cells #[.int .i64 a0_0, .int .i64 a0_1, .slice A0_2 l0_2.length c0_2, .int .i64 a0_3, .int .i64 a0_4] 24 (0, 0)) (by (with_reducible repeat (first | refine blk_drewN ?_ _ | refine blk_drew ?_ | refine blk_alloc ?_ _)); exact BK265.out) hb); clear hb hbox hg; have hnb7 := NB265_266.out; have hnc7 := NB266_265.out; obtain ⟨hcz8_0, hcz8_1, hcz8_2, hcz8_3, hcz8_4⟩ := cz5 BK265.out; obtain ⟨hfz8_0, hfz8_1, hfz8_2, hfz8_3, hfz8_4⟩ := fz5 BK265.out) | ((with_reducible refine gate_callee (f := 12) rfl ?_); refine goesL_ (some 17) rfl rfl Try.func12 (by kernel_rfl) rfl #[] rfl (by (try simp only [List.map_toArray, List.map_cons, List.map_nil]); first | done | rfl | (simp only [List.length_drop, List.length_take]; rfl)) ?_; (with_reducible refine (standbylaw32_awake.calls k  t267 _ A4.out).mono ?_); rintro e w9 ⟨rfl, hb⟩; refine ⟨_, rfl, ?_⟩; replace BK265 := Aside0.mk (blk_below (g := gb265) (o := .cells #[.int .i64 a0_0, .int .i64 a0_1, .slice A0_2 l0_2.length c0_2, .int .i64 a0_3, .int .i64 a0_4] 24 (0, 0)) (by (with_reducible repeat (first | refine blk_drewN ?_ _ | refine blk_drew ?_ | refine blk_alloc ?_ _)); exact BK265.out) hb); replace BK266 := Aside0.mk (blk_below (g := gb266) (o := .cells #[.int .i64 a1_0, .int .i64 a1_1, .int .i64 a1_2, .int .i64 a1_3] 26 (0, 0)) (by (with_reducible repeat (first | refine blk_drewN ?_ _ | refine blk_drew ?_ | refine blk_alloc ?_ _)); exact BK266.out) hb); replace HB := tB HB hb; (try clear hb); (try clear hb2); (try clear hk); (try clear hi)))
    go_ret
    exact ⟨by first | rfl | (simp [errW_none, errW_some] <;> rfl) | (simp [*, errW_none, errW_some] <;> rfl), (kB HB.out)⟩
  · rw [if_neg c3] at H
    have c3b0 : decide (1100 < (l0_2.length : Int)) = false := decide_eq_false c3
    have c3b1 : decide (1100 < l0_2.length) = false := decide_eq_false (by omega)
    clear c3
    replace H := Option.bind_eq_some_iff.mp H
    obtain ⟨⟨t268, t269, t270, t273, t274, t275⟩, A100, H⟩ := H
    (try dsimp only at H)
    have A10 := Aside0.mk A100
    clear A100
    replace H := Option.bind_eq_some_iff.mp H
    obtain ⟨⟨t277, t278, t279, t282, t283, t284⟩, A110, H⟩ := H
    (try dsimp only at H)
    have A11 := Aside0.mk A110
    clear A110
    replace H := Option.bind_eq_some_iff.mp H
    obtain ⟨⟨t286, t287, t288, t289, t290⟩, A120, H⟩ := H
    (try dsimp only at H)
    have A12 := Aside0.mk A120
    clear A120
    replace H := Option.bind_eq_some_iff.mp H
    obtain ⟨⟨t292, t293, t294, t295, t296⟩, A130, H⟩ := H
    (try dsimp only at H)
    have A13 := Aside0.mk A130
    clear A130
    replace H := Option.bind_eq_some_iff.mp H
    obtain ⟨t298, A140, H⟩ := H
    (try dsimp only at H)
    have A14 := Aside0.mk A140
    clear A140
    by_cases c15 : t298 = true
    · subst c15
      have H1 : ((standbyref32_Same.f k t268 t269 t270 t273 t274 t277 t278 t279 t282 t283).bind fun t299 => (if t299 = true then (if t275 = t284 then (if (t286 == t292 && (t287 == t293 && (t288 == t294 && (t289 == t295)))) = true then (if t290 = t296 then ((commit_CheckSource.f k a0_0 a0_1 l0_2 a0_3 a0_4).bind fun t300 => ((standbyref32_CheckSource.f k a0_0 a0_1 l0_2 a0_3 a0_4).bind fun t301 => (if t300 = t301 then ((commit_CheckTarget.f k a1_0 a1_1 a1_2 a1_3).bind fun t302 => ((standbyref32_CheckTarget.f k a1_0 a1_1 a1_2 a1_3).bind fun t303 => (some (t302 == t303)))) else (none)))) else (none)) else (none)) else (none)) else (none))) = some r := by rw [if_pos rfl] at H; exact H
      clear H
      have H := H1
      clear H1
      replace H := Option.bind_eq_some_iff.mp H
      obtain ⟨t299, A160, H⟩ := H
      (try dsimp only at H)
      have A16 := Aside0.mk A160
      clear A160
      by_cases c17 : t299 = true
      · subst c17
        have H1 : (if t275 = t284 then (if (t286 == t292 && (t287 == t293 && (t288 == t294 && (t289 == t295)))) = true then (if t290 = t296 then ((commit_CheckSource.f k a0_0 a0_1 l0_2 a0_3 a0_4).bind fun t300 => ((standbyref32_CheckSource.f k a0_0 a0_1 l0_2 a0_3 a0_4).bind fun t301 => (if t300 = t301 then ((commit_CheckTarget.f k a1_0 a1_1 a1_2 a1_3).bind fun t302 => ((standbyref32_CheckTarget.f k a1_0 a1_1 a1_2 a1_3).bind fun t303 => (some (t302 == t303)))) else (none)))) else (none)) else (none)) else (none)) = some r := by rw [if_pos rfl] at H; exact H
        clear H
        have H := H1
        clear H1
        by_cases c18 : t275 = t284
        · rw [if_pos c18] at H
          have c18b0 : (t275 == t284) = true := beq_iff_eq.mpr c18
          have c18b1 : (t275 != t284) = false := bne_eq_false_iff_eq.mpr c18
          clear c18
          by_cases c19 : (t286 == t292 && (t287 == t293 && (t288 == t294 && (t289 == t295)))) = true
          · rw [if_pos c19] at H
            have c19b0 : (t286 == t292 && (t287 == t293 && (t288 == t294 && (t289 == t295)))) = true := c19
            (try (have c19b1 : decide (t286 = t292 && (t287 == t293 && (t288 == t294 && (t289 == t295)))) = true := by simpa using c19))
            (try (have c19b2 : (t286 == t292 && (t287 == t293 && (t288 == t294 && (t289 == t295)))) = true := by simpa using c19))
            clear c19
            by_cases c20 : t290 = t296
            · rw [if_pos c20] at H
              have c20b0 : (t290 == t296) = true := beq_iff_eq.mpr c20
              have c20b1 : (t290 != t296) = false := bne_eq_false_iff_eq.mpr c20
              clear c20
              replace H := Option.bind_eq_some_iff.mp H
              obtain ⟨t300, A210, H⟩ := H
              (try dsimp only at H)
              have A21 := Aside0.mk A210
              clear A210
              replace H := Option.bind_eq_some_iff.mp H
              obtain ⟨t301, A220, H⟩ := H
              (try dsimp only at H)
              have A22 := Aside0.mk A220
              clear A220
              by_cases c23 : t300 = t301
              · rw [if_pos c23] at H
                have c23b0 : (t300 == t301) = true := beq_iff_eq.mpr c23
                have c23b1 : (t300 != t301) = false := bne_eq_false_iff_eq.mpr c23
                clear c23
                replace H := Option.bind_eq_some_iff.mp H
                obtain ⟨t302, A240, H⟩ := H
                (try dsimp only at H)
                have A24 := Aside0.mk A240
                clear A240
                replace H := Option.bind_eq_some_iff.mp H
                obtain ⟨t303, A250, H⟩ := H
                replace H : (some (t302 == t303)) = some r := H
                have A25 := Aside0.mk A250
                clear A250
                obtain rfl := Option.some.inj H
                go_enter Try.func3, Try.ntmps3
                try go_wp2_with (first | ((with_reducible refine gate_dst (N := 2) rfl ?_); refine box_event ?hg (N := 2) ?hd (cs := #[.int .i64 a0_0, .int .i64 a0_1, .slice A0_2 l0_2.length c0_2, .int .i64 a0_3, .int .i64 a0_4]) (t := 24) ?hr ?_; (case hd => rfl); (case hg => rfl); (case hr => first | (go_simp; done) | (go_simp; rfl)); intro gb265 hg w26 hbox hb; have BK265 := Aside0.mk (hbox); have GW265 := gZ HB hg; have GE265 := gZ HB hg; replace HB := tB HB hb; clear hb hbox hg) | ((with_reducible refine gate_dst (N := 3) rfl ?_); refine box_event ?hg (N := 3) ?hd (cs := #[.int .i64 a1_0, .int .i64 a1_1, .int .i64 a1_2, .int .i64 a1_3]) (t := 26) ?hr ?_; (case hd => rfl); (case hg => rfl); (case hr => first | (go_simp; done) | (go_simp; rfl)); intro gb266 hg w27 hbox hb; have BK266 := Aside0.mk (hbox); have GW266 := gZ HB hg; have GE266 := gZ HB hg; replace HB := tB HB hb; have NB265_266 := Aside0.mk ((by rw [hg]; exact Nat.ne_of_lt (blk_lt (g := gb265) (o := .cells #[.int .i64 a0_0, .int .i64 a0_1, .slice A0_2 l0_2.length c0_2, .int .i64 a0_3, .int .i64 a0_4] 24 (0, 0)) (by (with_reducible repeat (first | refine blk_drewN ?_ _ | refine blk_drew ?_ | refine blk_alloc ?_ _)); exact BK265.out)) : gb265 ≠ gb266)); have NB266_265 := Aside0.mk ((by rw [hg]; exact Nat.ne_of_gt (blk_lt (g := gb265) (o := .cells #[.int .i64 a0_0, .int .i64 a0_1, .slice A0_2 l0_2.length c0_2, .int .i64 a0_3, .int .i64 a0_4] 24 (0, 0)) (by (with_reducible repeat (first | refine blk_drewN ?_ _ | refine blk_drew ?_ | refine blk_alloc ?_ _)); exact BK265.out)) : gb266 ≠ gb265)); replace BK265 := Aside0.mk (blk_below (g := gb265) (o := .cells #[.int .i64 a0_0, .int .i64 a0_1, .slice A0_2 l0_2.length c0_2, .int .i64 a0_3, .int .i64 a0_4] 24 (0, 0)) (by (with_reducible repeat (first | refine blk_drewN ?_ _ | refine blk_drew ?_ | refine blk_alloc ?_ _)); exact BK265.out) hb); clear hb hbox hg; have hnb28 := NB265_266.out; have hnc28 := NB266_265.out; obtain ⟨hcz29_0, hcz29_1, hcz29_2, hcz29_3, hcz29_4⟩ := cz5 BK265.out; obtain ⟨hfz29_0, hfz29_1, hfz29_2, hfz29_3, hfz29_4⟩ := fz5 BK265.out) | ((with_reducible refine gate_callee (f := 13) rfl ?_); refine goesL_ (some 25) rfl rfl Try.func13 (by kernel_rfl) rfl #[.int .i64 a0_0, .int .i64 a0_1, .int .i64 a0_4] rfl (by (try simp only [List.map_toArray, List.map_cons, List.map_nil]); first | done | rfl | (simp only [List.length_drop, List.length_take]; rfl)) ?_; (with_reducible refine (commit_NewSource.calls a0_0 a0_1 a0_4 t268 t269 t270 t273 t274 t275 _ A10.out).mono ?_); rintro e w30 ⟨v271, rfl, ho0, hb⟩; refine ⟨_, rfl, ?_⟩; have HO272 := Aside0.mk (Kd.R_lower ho0 (kZ HB.out)); replace BK265 := Aside0.mk (blk_below (g := gb265) (o := .cells #[.int .i64 a0_0, .int .i64 a0_1, .slice A0_2 l0_2.length c0_2, .int .i64 a0_3, .int .i64 a0_4] 24 (0, 0)) (by (with_reducible repeat (first | refine blk_drewN ?_ _ | refine blk_drew ?_ | refine blk_alloc ?_ _)); exact BK265.out) hb); replace BK266 := Aside0.mk (blk_below (g := gb266) (o := .cells #[.int .i64 a1_0, .int .i64 a1_1, .int .i64 a1_2, .int .i64 a1_3] 26 (0, 0)) (by (with_reducible repeat (first | refine blk_drewN ?_ _ | refine blk_drew ?_ | refine blk_alloc ?_ _)); exact BK266.out) hb); replace HB := tB HB hb; (try clear hb); (try clear hb2); (try clear hk); (try clear hi); (try clear ho0)) | ((with_reducible refine gate_dst (N := 5) rfl ?_); refine box_event ?hg (N := 5) ?hd (cs := #[.int .i64 0, .int .i64 0, .slice none 0 0, .int .i64 0, .int .i64 0]) (t := 24) ?hr ?_; (case hd => rfl); (case hg => rfl); (case hr => first | (go_simp; done) | (go_simp; rfl)); intro gb276 hg w31 hbox hb; replace HO272 := Aside0.mk (Kd.R_below (by (with_reducible repeat (first | apply Kd.R_alloc | apply Kd.R_drewN | apply Kd.R_drew)); exact HO272.out) hb); have BK276 := Aside0.mk (hbox); have GW276 := gZ HB hg; have GE276 := gZ HB hg; replace HB := tB HB hb; have NB265_276 := Aside0.mk ((by rw [hg]; exact Nat.ne_of_lt (blk_lt (g := gb265) (o := .cells #[.int .i64 a0_0, .int .i64 a0_1, .slice A0_2 l0_2.length c0_2, .int .i64 a0_3, .int .i64 a0_4] 24 (0, 0)) (by (with_reducible repeat (first | refine blk_drewN ?_ _ | refine blk_drew ?_ | refine blk_alloc ?_ _)); exact BK265.out)) : gb265 ≠ gb276)); have NB276_265 := Aside0.mk ((by rw [hg]; exact Nat.ne_of_gt (blk_lt (g := gb265) (o := .cells #[.int .i64 a0_0, .int .i64 a0_1, .slice A0_2 l0_2.length c0_2, .int .i64 a0_3, .int .i64 a0_4] 24 (0, 0)) (by (with_reducible repeat (first | refine blk_drewN ?_ _ | refine blk_drew ?_ | refine blk_alloc ?_ _)); exact BK265.out)) : gb276 ≠ gb265)); replace BK265 := Aside0.mk (blk_below (g := gb265) (o := .cells #[.int .i64 a0_0, .int .i64 a0_1, .slice A0_2 l0_2.length c0_2, .int .i64 a0_3, .int .i64 a0_4] 24 (0, 0)) (by (with_reducible repeat (first | refine blk_drewN ?_ _ | refine blk_drew ?_ | refine blk_alloc ?_ _)); exact BK265.out) hb); have NB266_276 := Aside0.mk ((by rw [hg]; exact Nat.ne_of_lt (blk_lt (g := gb266) (o := .cells #[.int .i64 a1_0, .int .i64 a1_1, .int .i64 a1_2, .int .i64 a1_3] 26 (0, 0)) (by (with_reducible repeat (first | refine blk_drewN ?_ _ | refine blk_drew ?_ | refine blk_alloc ?_ _)); exact BK266.out)) : gb266 ≠ gb276)); have NB276_266 := Aside0.mk ((by rw [hg]; exact Nat.ne_of_gt (blk_lt (g := gb266) (o := .cells #[.int .i64 a1_0, .int .i64 a1_1, .int .i64 a1_2, .int .i64 a1_3] 26 (0, 0)) (by (with_reducible repeat (first | refine blk_drewN ?_ _ | refine blk_drew ?_ | refine blk_alloc ?_ _)); exact BK266.out)) : gb276 ≠ gb266)); replace BK266 := Aside0.mk (blk_below (g := gb266) (o := .cells #[.int .i64 a1_0, .int .i64 a1_1, .int .i64 a1_2, .int .i64 a1_3] 26 (0, 0)) (by (with_reducible repeat (first | refine blk_drewN ?_ _ | refine blk_drew ?_ | refine blk_alloc ?_ _)); exact BK266.out) hb); clear hb hbox hg; have hnb32 := NB276_265.out; have hnc32 := NB265_276.out; have hnb33 := NB276_266.out; have hnc33 := NB266_276.out; obtain ⟨hcz34_0, hcz34_1, hcz34_2, hcz34_3, hcz34_4⟩ := cz5 BK276.out; obtain ⟨hfz34_0, hfz34_1, hfz34_2, hfz34_3, hfz34_4⟩ := fz5 BK276.out; obtain ⟨Ao35, co35, eo35⟩ := Kd.R_slice HO272.out; subst eo35; obtain ⟨hcz36_0, hcz36_1, hcz36_2, hcz36_3, hcz36_4⟩ := cz5 BK265.out; obtain ⟨hfz36_0, hfz36_1, hfz36_2, hfz36_3, hfz36_4⟩ := fz5 BK265.out) | ((with_reducible refine gate_callee (f := 14) rfl ?_); refine goesL_ (some 35) rfl rfl Try.func14 (by kernel_rfl) rfl #[.int .i64 a0_0, .int .i64 a0_1, .int .i64 a0_4] rfl (by (try simp only [List.map_toArray, List.map_cons, List.map_nil]); first | done | rfl | (simp only [List.length_drop, List.length_take]; rfl)) ?_; (with_reducible refine (standbyref32_NewSource.calls a0_0 a0_1 a0_4 t277 t278 t279 t282 t283 t284 _ A11.out).mono ?_); rintro e w37 ⟨v280, rfl, ho0, hb⟩; refine ⟨_, rfl, ?_⟩; have HO281 := Aside0.mk (Kd.R_lower (Kd.R_new' ho0 (Kd.R_lt (by (with_reducible repeat (first | apply Kd.R_alloc | apply Kd.R_drewN | apply Kd.R_drew)); exact (Kd.R_mono (rf5 gb276 0 (Kd.R_types HO272.out BK276.out (by decide)) (fun _ hk => hk.2) (.int .i64 t268) (.int .i64 t269) (.slice Ao35 t270.length co35) (.int .i64 t273) (.int .i64 t274)) (fun _ h_ => h_.1))))) (kZ HB.out)); replace HO272 := Aside0.mk (Kd.R_elder' (by (with_reducible repeat (first | apply Kd.R_alloc | apply Kd.R_drewN | apply Kd.R_drew)); exact (Kd.R_mono (rf5 gb276 0 (Kd.R_types HO272.out BK276.out (by decide)) (fun _ hk => hk.2) (.int .i64 t268) (.int .i64 t269) (.slice Ao35 t270.length co35) (.int .i64 t273) (.int .i64 t274)) (fun _ h_ => h_.1))) (Kd.R_base ho0) hb); replace BK265 := Aside0.mk (blk_below (g := gb265) (o := .cells #[.int .i64 a0_0, .int .i64 a0_1, .slice A0_2 l0_2.length c0_2, .int .i64 a0_3, .int .i64 a0_4] 24 (0, 0)) (by (with_reducible repeat (first | refine blk_drewN ?_ _ | refine blk_drew ?_ | refine blk_alloc ?_ _)); refine blk_far ?_ NB265_276.out _; (with_reducible repeat (first | refine blk_drewN ?_ _ | refine blk_drew ?_ | refine blk_alloc ?_ _)); refine blk_far ?_ NB265_276.out _; (with_reducible repeat (first | refine blk_drewN ?_ _ | refine blk_drew ?_ | refine blk_alloc ?_ _)); refine blk_far ?_ NB265_276.out _; (with_reducible repeat (first | refine blk_drewN ?_ _ | refine blk_drew ?_ | refine blk_alloc ?_ _)); refine blk_far ?_ NB265_276.out _; (with_reducible repeat (first | refine blk_drewN ?_ _ | refine blk_drew ?_ | refine blk_alloc ?_ _)); refine blk_far ?_ NB265_276.out _; (with_reducible repeat (first | refine blk_drewN ?_ _ | refine blk_drew ?_ | refine blk_alloc ?_ _)); exact BK265.out) hb); replace BK266 := Aside0.mk (blk_below (g := gb266) (o := .cells #[.int .i64 a1_0, .int .i64 a1_1, .int .i64 a1_2, .int .i64 a1_3] 26 (0, 0)) (by (with_reducible repeat (first | refine blk_drewN ?_ _ | refine blk_drew ?_ | refine blk_alloc ?_ _)); refine blk_far ?_ NB266_276.out _; (with_reducible repeat (first | refine blk_drewN ?_ _ | refine blk_drew ?_ | refine blk_alloc ?_ _)); refine blk_far ?_ NB266_276.out _; (with_reducible repeat (first | refine blk_drewN ?_ _ | refine blk_drew ?_ | refine blk_alloc ?_ _)); refine blk_far ?_ NB266_276.out _; (with_reducible repeat (first | refine blk_drewN ?_ _ | refine blk_drew ?_ | refine blk_alloc ?_ _)); refine blk_far ?_ NB266_276.out _; (with_reducible repeat (first | refine blk_drewN ?_ _ | refine blk_drew ?_ | refine blk_alloc ?_ _)); refine blk_far ?_ NB266_276.out _; (with_reducible repeat (first | refine blk_drewN ?_ _ | refine blk_drew ?_ | refine blk_alloc ?_ _)); exact BK266.out) hb); replace BK276 := Aside0.mk (blk_below (g := gb276) (o := .cells #[.int .i64 t268, .int .i64 t269, .slice Ao35 t270.length co35, .int .i64 t273, .int .i64 t274] 24 (0, 0)) (by (with_reducible repeat (first | refine blk_drewN ?_ _ | refine blk_drew ?_ | refine blk_alloc ?_ _)); refine blk_put (cs := #[.int .i64 t268, .int .i64 t269, .slice Ao35 t270.length co35, .int .i64 t273, .int .i64 0]) ?_ 4 _ rfl; (with_reducible repeat (first | refine blk_drewN ?_ _ | refine blk_drew ?_ | refine blk_alloc ?_ _)); refine blk_put (cs := #[.int .i64 t268, .int .i64 t269, .slice Ao35 t270.length co35, .int .i64 0, .int .i64 0]) ?_ 3 _ rfl; (with_reducible repeat (first | refine blk_drewN ?_ _ | refine blk_drew ?_ | refine blk_alloc ?_ _)); refine blk_put (cs := #[.int .i64 t268, .int .i64 t269, .slice none 0 0, .int .i64 0, .int .i64 0]) ?_ 2 _ rfl; (with_reducible repeat (first | refine blk_drewN ?_ _ | refine blk_drew ?_ | refine blk_alloc ?_ _)); refine blk_put (cs := #[.int .i64 t268, .int .i64 0, .slice none 0 0, .int .i64 0, .int .i64 0]) ?_ 1 _ rfl; (with_reducible repeat (first | refine blk_drewN ?_ _ | refine blk_drew ?_ | refine blk_alloc ?_ _)); refine blk_put (cs := #[.int .i64 0, .int .i64 0, .slice none 0 0, .int .i64 0, .int .i64 0]) ?_ 0 _ rfl; (with_reducible repeat (first | refine blk_drewN ?_ _ | refine blk_drew ?_ | refine blk_alloc ?_ _)); exact BK276.out) hb); replace HB := tB HB hb; (try clear hb); (try clear hb2); (try clear hk); (try clear hi); (try clear ho0)) | ((with_reducible refine gate_dst (N := 7) rfl ?_); refine box_event ?hg (N := 7) ?hd (cs := #[.int .i64 0, .int .i64 0, .slice none 0 0, .int .i64 0, .int .i64 0]) (t := 24) ?hr ?_; (case hd => rfl); (case hg => rfl); (case hr => first | (go_simp; done) | (go_simp; rfl)); intro gb285 hg w38 hbox hb; replace HO272 := Aside0.mk (Kd.R_below (by (with_reducible repeat (first | apply Kd.R_alloc | apply Kd.R_drewN | apply Kd.R_drew)); exact HO272.out) hb); replace HO281 := Aside0.mk (Kd.R_below (by (with_reducible repeat (first | apply Kd.R_alloc | apply Kd.R_drewN | apply Kd.R_drew)); exact HO281.out) hb); have BK285 := Aside0.mk (hbox); have GW285 := gZ HB hg; have GE285 := gZ HB hg; replace HB := tB HB hb; have NB265_285 := Aside0.mk ((by rw [hg]; exact Nat.ne_of_lt (blk_lt (g := gb265) (o := .cells #[.int .i64 a0_0, .int .i64 a0_1, .slice A0_2 l0_2.length c0_2, .int .i64 a0_3, .int .i64 a0_4] 24 (0, 0)) (by (with_reducible repeat (first | refine blk_drewN ?_ _ | refine blk_drew ?_ | refine blk_alloc ?_ _)); exact BK265.out)) : gb265 ≠ gb285)); have NB285_265 := Aside0.mk ((by rw [hg]; exact Nat.ne_of_gt (blk_lt (g := gb265) (o := .cells #[.int .i64 a0_0, .int .i64 a0_1, .slice A0_2 l0_2.length c0_2, .int .i64 a0_3, .int .i64 a0_4] 24 (0, 0)) (by (with_reducible repeat (first | refine blk_drewN ?_ _ | refine blk_drew ?_ | refine blk_alloc ?_ _)); exact BK265.out)) : gb285 ≠ gb265)); replace BK265 := Aside0.mk (blk_below (g := gb265) (o := .cells #[.int .i64 a0_0, .int .i64 a0_1, .slice A0_2 l0_2.length c0_2, .int .i64 a0_3, .int .i64 a0_4] 24 (0, 0)) (by (with_reducible repeat (first | refine blk_drewN ?_ _ | refine blk_drew ?_ | refine blk_alloc ?_ _)); exact BK265.out) hb); have NB266_285 := Aside0.mk ((by rw [hg]; exact Nat.ne_of_lt (blk_lt (g := gb266) (o := .cells #[.int .i64 a1_0, .int .i64 a1_1, .int .i64 a1_2, .int .i64 a1_3] 26 (0, 0)) (by (with_reducible repeat (first | refine blk_drewN ?_ _ | refine blk_drew ?_ | refine blk_alloc ?_ _)); exact BK266.out)) : gb266 ≠ gb285)); have NB285_266 := Aside0.mk ((by rw [hg]; exact Nat.ne_of_gt (blk_lt (g := gb266) (o := .cells #[.int .i64 a1_0, .int .i64 a1_1, .int .i64 a1_2, .int .i64 a1_3] 26 (0, 0)) (by (with_reducible repeat (first | refine blk_drewN ?_ _ | refine blk_drew ?_ | refine blk_alloc ?_ _)); exact BK266.out)) : gb285 ≠ gb266)); replace BK266 := Aside0.mk (blk_below (g := gb266) (o := .cells #[.int .i64 a1_0, .int .i64 a1_1, .int .i64 a1_2, .int .i64 a1_3] 26 (0, 0)) (by (with_reducible repeat (first | refine blk_drewN ?_ _ | refine blk_drew ?_ | refine blk_alloc ?_ _)); exact BK266.out) hb); have NB276_285 := Aside0.mk ((by rw [hg]; exact Nat.ne_of_lt (blk_lt (g := gb276) (o := .cells #[.int .i64 t268, .int .i64 t269, .slice Ao35 t270.length co35, .int .i64 t273, .int .i64 t274] 24 (0, 0)) (by (with_reducible repeat (first | refine blk_drewN ?_ _ | refine blk_drew ?_ | refine blk_alloc ?_ _)); exact BK276.out)) : gb276 ≠ gb285)); have NB285_276 := Aside0.mk ((by rw [hg]; exact Nat.ne_of_gt (blk_lt (g := gb276) (o := .cells #[.int .i64 t268, .int .i64 t269, .slice Ao35 t270.length co35, .int .i64 t273, .int .i64 t274] 24 (0, 0)) (by (with_reducible repeat (first | refine blk_drewN ?_ _ | refine blk_drew ?_ | refine blk_alloc ?_ _)); exact BK276.out)) : gb285 ≠ gb276)); replace BK276 := Aside0.mk (blk_below (g := gb276) (o := .cells #[.int .i64 t268, .int .i64 t269, .slice Ao35 t270.length co35, .int .i64 t273, .int .i64 t274] 24 (0, 0)) (by (with_reducible repeat (first | refine blk_drewN ?_ _ | refine blk_drew ?_ | refine blk_alloc ?_ _)); exact BK276.out) hb); clear hb hbox hg; have hnb39 := NB285_265.out; have hnc39 := NB265_285.out; have hnb40 := NB285_266.out; have hnc40 := NB266_285.out; have hnb41 := NB285_276.out; have hnc41 := NB276_285.out; obtain ⟨hcz42_0, hcz42_1, hcz42_2, hcz42_3, hcz42_4⟩ := cz5 BK285.out; obtain ⟨hfz42_0, hfz42_1, hfz42_2, hfz42_3, hfz42_4⟩ := fz5 BK285.out; obtain ⟨Ao43, co43, eo43⟩ := Kd.R_slice HO281.out; subst eo43; obtain ⟨hcz44_0, hcz44_1, hcz44_2, hcz44_3⟩ := cz4 BK266.out; obtain ⟨hfz44_0, hfz44_1, hfz44_2, hfz44_3⟩ := fz4 BK266.out) | ((with_reducible refine gate_callee (f := 15) rfl ?_); refine goesL_ (some 45) rfl rfl Try.func15 (by kernel_rfl) rfl #[.int .i64 a1_0, .int .i64 a1_1, .int .i64 a1_3] rfl (by (try simp only [List.map_toArray, List.map_cons, List.map_nil]); first | done | rfl | (simp only [List.length_drop, List.length_take]; rfl)) ?_; (with_reducible refine (commit_NewTarget.calls a1_0 a1_1 a1_3 t286 t287 t288 t289 t290 _ A12.out).mono ?_); rintro e w45 ⟨rfl, hb⟩; refine ⟨_, rfl, ?_⟩; replace HO272 := Aside0.mk (Kd.R_below (by (with_reducible repeat (first | apply Kd.R_alloc | apply Kd.R_drewN | apply Kd.R_drew)); exact (Kd.R_mono (rf5 gb285 0 (Kd.R_types HO272.out BK285.out (by decide)) (fun _ hk => hk.2) (.int .i64 t277) (.int .i64 t278) (.slice Ao43 t279.length co43) (.int .i64 t282) (.int .i64 t283)) (fun _ h_ => h_.1))) hb); replace HO281 := Aside0.mk (Kd.R_below (by (with_reducible repeat (first | apply Kd.R_alloc | apply Kd.R_drewN | apply Kd.R_drew)); exact (Kd.R_mono (rf5 gb285 0 (Kd.R_types HO281.out BK285.out (by decide)) (fun _ hk => hk.2) (.int .i64 t277) (.int .i64 t278) (.slice Ao43 t279.length co43) (.int .i64 t282) (.int .i64 t283)) (fun _ h_ => h_.1))) hb); replace BK265 := Aside0.mk (blk_below (g := gb265) (o := .cells #[.int .i64 a0_0, .int .i64 a0_1, .slice A0_2 l0_2.length c0_2, .int .i64 a0_3, .int .i64 a0_4] 24 (0, 0)) (by (with_reducible repeat (first | refine blk_drewN ?_ _ | refine blk_drew ?_ | refine blk_alloc ?_ _)); refine blk_far ?_ NB265_285.out _; (with_reducible repeat (first | refine blk_drewN ?_ _ | refine blk_drew ?_ | refine blk_alloc ?_ _)); refine blk_far ?_ NB265_285.out _; (with_reducible repeat (first | refine blk_drewN ?_ _ | refine blk_drew ?_ | refine blk_alloc ?_ _)); refine blk_far ?_ NB265_285.out _; (with_reducible repeat (first | refine blk_drewN ?_ _ | refine blk_drew ?_ | refine blk_alloc ?_ _)); refine blk_far ?_ NB265_285.out _; (with_reducible repeat (first | refine blk_drewN ?_ _ | refine blk_drew ?_ | refine blk_alloc ?_ _)); refine blk_far ?_ NB265_285.out _; (with_reducible repeat (first | refine blk_drewN ?_ _ | refine blk_drew ?_ | refine blk_alloc ?_ _)); exact BK265.out) hb); replace BK266 := Aside0.mk (blk_below (g := gb266) (o := .cells #[.int .i64 a1_0, .int .i64 a1_1, .int .i64 a1_2, .int .i64 a1_3] 26 (0, 0)) (by (with_reducible repeat (first | refine blk_drewN ?_ _ | refine blk_drew ?_ | refine blk_alloc ?_ _)); refine blk_far ?_ NB266_285.out _; (with_reducible repeat (first | refine blk_drewN ?_ _ | refine blk_drew ?_ | refine blk_alloc ?_ _)); refine blk_far ?_ NB266_285.out _; (with_reducible repeat (first | refine blk_drewN ?_ _ | refine blk_drew ?_ | refine blk_alloc ?_ _)); refine blk_far ?_ NB266_285.out _; (with_reducible repeat (first | refine blk_drewN ?_ _ | refine blk_drew ?_ | refine blk_alloc ?_ _)); refine blk_far ?_ NB266_285.out _; (with_reducible repeat (first | refine blk_drewN ?_ _ | refine blk_drew ?_ | refine blk_alloc ?_ _)); refine blk_far ?_ NB266_285.out _; (with_reducible repeat (first | refine blk_drewN ?_ _ | refine blk_drew ?_ | refine blk_alloc ?_ _)); exact BK266.out) hb); replace BK276 := Aside0.mk (blk_below (g := gb276) (o := .cells #[.int .i64 t268, .int .i64 t269, .slice Ao35 t270.length co35, .int .i64 t273, .int .i64 t274] 24 (0, 0)) (by (with_reducible repeat (first | refine blk_drewN ?_ _ | refine blk_drew ?_ | refine blk_alloc ?_ _)); refine blk_far ?_ NB276_285.out _; (with_reducible repeat (first | refine blk_drewN ?_ _ | refine blk_drew ?_ | refine blk_alloc ?_ _)); refine blk_far ?_ NB276_285.out _; (with_reducible repeat (first | refine blk_drewN ?_ _ | refine blk_drew ?_ | refine blk_alloc ?_ _)); refine blk_far ?_ NB276_285.out _; (with_reducible repeat (first | refine blk_drewN ?_ _ | refine blk_drew ?_ | refine blk_alloc ?_ _)); refine blk_far ?_ NB276_285.out _; (with_reducible repeat (first | refine blk_drewN ?_ _ | refine blk_drew ?_ | refine blk_alloc ?_ _)); refine blk_far ?_ NB276_285.out _; (with_reducible repeat (first | refine blk_drewN ?_ _ | refine blk_drew ?_ | refine blk_alloc ?_ _)); exact BK276.out) hb); replace BK285 := Aside0.mk (blk_below (g := gb285) (o := .cells #[.int .i64 t277, .int .i64 t278, .slice Ao43 t279.length co43, .int .i64 t282, .int .i64 t283] 24 (0, 0)) (by (with_reducible repeat (first | refine blk_drewN ?_ _ | refine blk_drew ?_ | refine blk_alloc ?_ _)); refine blk_put (cs := #[.int .i64 t277, .int .i64 t278, .slice Ao43 t279.length co43, .int .i64 t282, .int .i64 0]) ?_ 4 _ rfl; (with_reducible repeat (first | refine blk_drewN ?_ _ | refine blk_drew ?_ | refine blk_alloc ?_ _)); refine blk_put (cs := #[.int .i64 t277, .int .i64 t278, .slice Ao43 t279.length co43, .int .i64 0, .int .i64 0]) ?_ 3 _ rfl; (with_reducible repeat (first | refine blk_drewN ?_ _ | refine blk_drew ?_ | refine blk_alloc ?_ _)); refine blk_put (cs := #[.int .i64 t277, .int .i64 t278, .slice none 0 0, .int .i64 0, .int .i64 0]) ?_ 2 _ rfl; (with_reducible repeat (first | refine blk_drewN ?_ _ | refine blk_drew ?_ | refine blk_alloc ?_ _)); refine blk_put (cs := #[.int .i64 t277, .int .i64 0, .slice none 0 0, .int .i64 0, .int .i64 0]) ?_ 1 _ rfl; (with_reducible repeat (first | refine blk_drewN ?_ _ | refine blk_drew ?_ | refine blk_alloc ?_ _)); refine blk_put (cs := #[.int .i64 0, .int .i64 0, .slice none 0 0, .int .i64 0, .int .i64 0]) ?_ 0 _ rfl; (with_reducible repeat (first | refine blk_drewN ?_ _ | refine blk_drew ?_ | refine blk_alloc ?_ _)); exact BK285.out) hb); replace HB := tB HB hb; (try clear hb); (try clear hb2); (try clear hk); (try clear hi)) | ((with_reducible refine gate_dst (N := 9) rfl ?_); refine box_event ?hg (N := 9) ?hd (cs := #[.int .i64 0, .int .i64 0, .int .i64 0, .int .i64 0]) (t := 26) ?hr ?_; (case hd => rfl); (case hg => rfl); (case hr => first | (go_simp; done) | (go_simp; rfl)); intro gb291 hg w46 hbox hb; replace HO272 := Aside0.mk (Kd.R_below (by (with_reducible repeat (first | apply Kd.R_alloc | apply Kd.R_drewN | apply Kd.R_drew)); exact HO272.out) hb); replace HO281 := Aside0.mk (Kd.R_below (by (with_reducible repeat (first | apply Kd.R_alloc | apply Kd.R_drewN | apply Kd.R_drew)); exact HO281.out) hb); have BK291 := Aside0.mk (hbox); have GW291 := gZ HB hg; have GE291 := gZ HB hg; replace HB := tB HB hb; have NB265_291 := Aside0.mk ((by rw [hg]; exact Nat.ne_of_lt (blk_lt (g := gb265) (o := .cells #[.int .i64 a0_0, .int .i64 a0_1, .slice A0_2 l0_2.length c0_2, .int .i64 a0_3, .int .i64 a0_4] 24 (0, 0)) (by (with_reducible repeat (first | refine blk_drewN ?_ _ | refine blk_drew ?_ | refine blk_alloc ?_ _)); exact BK265.out)) : gb265 ≠ gb291)); have NB291_265 := Aside0.mk ((by rw [hg]; exact Nat.ne_of_gt (blk_lt (g := gb265) (o := .cells #[.int .i64 a0_0, .int .i64 a0_1, .slice A0_2 l0_2.length c0_2, .int .i64 a0_3, .int .i64 a0_4] 24 (0, 0)) (by (with_reducible repeat (first | refine blk_drewN ?_ _ | refine blk_drew ?_ | refine blk_alloc ?_ _)); exact BK265.out)) : gb291 ≠ gb265)); replace BK265 := Aside0.mk (blk_below (g := gb265) (o := .cells #[.int .i64 a0_0, .int .i64 a0_1, .slice A0_2 l0_2.length c0_2, .int .i64 a0_3, .int .i64 a0_4] 24 (0, 0)) (by (with_reducible repeat (first | refine blk_drewN ?_ _ | refine blk_drew ?_ | refine blk_alloc ?_ _)); exact BK265.out) hb); have NB266_291 := Aside0.mk ((by rw [hg]; exact Nat.ne_of_lt (blk_lt (g := gb266) (o := .cells #[.int .i64 a1_0, .int .i64 a1_1, .int .i64 a1_2, .int .i64 a1_3] 26 (0, 0)) (by (with_reducible repeat (first | refine blk_drewN ?_ _ | refine blk_drew ?_ | refine blk_alloc ?_ _)); exact BK266.out)) : gb266 ≠ gb291)); have NB291_266 := Aside0.mk ((by rw [hg]; exact Nat.ne_of_gt (blk_lt (g := gb266) (o := .cells #[.int .i64 a1_0, .int .i64 a1_1, .int .i64 a1_2, .int .i64 a1_3] 26 (0, 0)) (by (with_reducible repeat (first | refine blk_drewN ?_ _ | refine blk_drew ?_ | refine blk_alloc ?_ _)); exact BK266.out)) : gb291 ≠ gb266)); replace BK266 := Aside0.mk (blk_below (g := gb266) (o := .cells #[.int .i64 a1_0, .int .i64 a1_1, .int .i64 a1_2, .int .i64 a1_3] 26 (0, 0)) (by (with_reducible repeat (first | refine blk_drewN ?_ _ | refine blk_drew ?_ | refine blk_alloc ?_ _)); exact BK266.out) hb); have NB276_291 := Aside0.mk ((by rw [hg]; exact Nat.ne_of_lt (blk_lt (g := gb276) (o := .cells #[.int .i64 t268, .int .i64 t269, .slice Ao35 t270.length co35, .int .i64 t273, .int .i64 t274] 24 (0, 0)) (by (with_reducible repeat (first | refine blk_drewN ?_ _ | refine blk_drew ?_ | refine blk_alloc ?_ _)); exact BK276.out)) : gb276 ≠ gb291)); have NB291_276 := Aside0.mk ((by rw [hg]; exact Nat.ne_of_gt (blk_lt (g := gb276) (o := .cells #[.int .i64 t268, .int .i64 t269, .slice Ao35 t270.length co35, .int .i64 t273, .int .i64 t274] 24 (0, 0)) (by (with_reducible repeat (first | refine blk_drewN ?_ _ | refine blk_drew ?_ | refine blk_alloc ?_ _)); exact BK276.out)) : gb291 ≠ gb276)); replace BK276 := Aside0.mk (blk_below (g := gb276) (o := .cells #[.int .i64 t268, .int .i64 t269, .slice Ao35 t270.length co35, .int .i64 t273, .int .i64 t274] 24 (0, 0)) (by (with_reducible repeat (first | refine blk_drewN ?_ _ | refine blk_drew ?_ | refine blk_alloc ?_ _)); exact BK276.out) hb); have NB285_291 := Aside0.mk ((by rw [hg]; exact Nat.ne_of_lt (blk_lt (g := gb285) (o := .cells #[.int .i64 t277, .int .i64 t278, .slice Ao43 t279.length co43, .int .i64 t282, .int .i64 t283] 24 (0, 0)) (by (with_reducible repeat (first | refine blk_drewN ?_ _ | refine blk_drew ?_ | refine blk_alloc ?_ _)); exact BK285.out)) : gb285 ≠ gb291)); have NB291_285 := Aside0.mk ((by rw [hg]; exact Nat.ne_of_gt (blk_lt (g := gb285) (o := .cells #[.int .i64 t277, .int .i64 t278, .slice Ao43 t279.length co43, .int .i64 t282, .int .i64 t283] 24 (0, 0)) (by (with_reducible repeat (first | refine blk_drewN ?_ _ | refine blk_drew ?_ | refine blk_alloc ?_ _)); exact BK285.out)) : gb291 ≠ gb285)); replace BK285 := Aside0.mk (blk_below (g := gb285) (o := .cells #[.int .i64 t277, .int .i64 t278, .slice Ao43 t279.length co43, .int .i64 t282, .int .i64 t283] 24 (0, 0)) (by (with_reducible repeat (first | refine blk_drewN ?_ _ | refine blk_drew ?_ | refine blk_alloc ?_ _)); exact BK285.out) hb); clear hb hbox hg; have hnb47 := NB291_265.out; have hnc47 := NB265_291.out; have hnb48 := NB291_266.out; have hnc48 := NB266_291.out; have hnb49 := NB291_276.out; have hnc49 := NB276_291.out; have hnb50 := NB291_285.out; have hnc50 := NB285_291.out; obtain ⟨hcz51_0, hcz51_1, hcz51_2, hcz51_3⟩ := cz4 BK291.out; obtain ⟨hfz51_0, hfz51_1, hfz51_2, hfz51_3⟩ := fz4 BK291.out; obtain ⟨hcz52_0, hcz52_1, hcz52_2, hcz52_3⟩ := cz4 BK266.out; obtain ⟨hfz52_0, hfz52_1, hfz52_2, hfz52_3⟩ := fz4 BK266.out) | ((with_reducible refine gate_callee (f := 16) rfl ?_); refine goesL_ (some 55) rfl rfl Try.func16 (by kernel_rfl) rfl #[.int .i64 a1_0, .int .i64 a1_1, .int .i64 a1_3] rfl (by (try simp only [List.map_toArray, List.map_cons, List.map_nil]); first | done | rfl | (simp only [List.length_drop, List.length_take]; rfl)) ?_; (with_reducible refine (standbyref32_NewTarget.calls a1_0 a1_1 a1_3 t292 t293 t294 t295 t296 _ A13.out).mono ?_); rintro e w53 ⟨rfl, hb⟩; refine ⟨_, rfl, ?_⟩; replace HO272 := Aside0.mk (Kd.R_below (by (with_reducible repeat (first | apply Kd.R_alloc | apply Kd.R_drewN | apply Kd.R_drew)); exact (Kd.R_mono (rf4 gb291 0 (Kd.R_types HO272.out BK291.out (by decide)) (fun _ hk => hk.2) (.int .i64 t286) (.int .i64 t287) (.int .i64 t288) (.int .i64 t289)) (fun _ h_ => h_.1))) hb); replace HO281 := Aside0.mk (Kd.R_below (by (with_reducible repeat (first | apply Kd.R_alloc | apply Kd.R_drewN | apply Kd.R_drew)); exact (Kd.R_mono (rf4 gb291 0 (Kd.R_types HO281.out BK291.out (by decide)) (fun _ hk => hk.2) (.int .i64 t286) (.int .i64 t287) (.int .i64 t288) (.int .i64 t289)) (fun _ h_ => h_.1))) hb); replace BK265 := Aside0.mk (blk_below (g := gb265) (o := .cells #[.int .i64 a0_0, .int .i64 a0_1, .slice A0_2 l0_2.length c0_2, .int .i64 a0_3, .int .i64 a0_4] 24 (0, 0)) (by (with_reducible repeat (first | refine blk_drewN ?_ _ | refine blk_drew ?_ | refine blk_alloc ?_ _)); refine blk_far ?_ NB265_291.out _; (with_reducible repeat (first | refine blk_drewN ?_ _ | refine blk_drew ?_ | refine blk_alloc ?_ _)); refine blk_far ?_ NB265_291.out _; (with_reducible repeat (first | refine blk_drewN ?_ _ | refine blk_drew ?_ | refine blk_alloc ?_ _)); refine blk_far ?_ NB265_291.out _; (with_reducible repeat (first | refine blk_drewN ?_ _ | refine blk_drew ?_ | refine blk_alloc ?_ _)); refine blk_far ?_ NB265_291.out _; (with_reducible repeat (first | refine blk_drewN ?_ _ | refine blk_drew ?_ | refine blk_alloc ?_ _)); exact BK265.out) hb); replace BK266 := Aside0.mk (blk_below (g := gb266) (o := .cells #[.int .i64 a1_0, .int .i64 a1_1, .int .i64 a1_2, .int .i64 a1_3] 26 (0, 0)) (by (with_reducible repeat (first | refine blk_drewN ?_ _ | refine blk_drew ?_ | refine blk_alloc ?_ _)); refine blk_far ?_ NB266_291.out _; (with_reducible repeat (first | refine blk_drewN ?_ _ | refine blk_drew ?_ | refine blk_alloc ?_ _)); refine blk_far ?_ NB266_291.out _; (with_reducible repeat (first | refine blk_drewN ?_ _ | refine blk_drew ?_ | refine blk_alloc ?_ _)); refine blk_far ?_ NB266_291.out _; (with_reducible repeat (first | refine blk_drewN ?_ _ | refine blk_drew ?_ | refine blk_alloc ?_ _)); refine blk_far ?_ NB266_291.out _; (with_reducible repeat (first | refine blk_drewN ?_ _ | refine blk_drew ?_ | refine blk_alloc ?_ _)); exact BK266.out) hb); replace BK276 := Aside0.mk (blk_below (g := gb276) (o := .cells #[.int .i64 t268, .int .i64 t269, .slice Ao35 t270.length co35, .int .i64 t273, .int .i64 t274] 24 (0, 0)) (by (with_reducible repeat (first | refine blk_drewN ?_ _ | refine blk_drew ?_ | refine blk_alloc ?_ _)); refine blk_far ?_ NB276_291.out _; (with_reducible repeat (first | refine blk_drewN ?_ _ | refine blk_drew ?_ | refine blk_alloc ?_ _)); refine blk_far ?_ NB276_291.out _; (with_reducible repeat (first | refine blk_drewN ?_ _ | refine blk_drew ?_ | refine blk_alloc ?_ _)); refine blk_far ?_ NB276_291.out _; (with_reducible repeat (first | refine blk_drewN ?_ _ | refine blk_drew ?_ | refine blk_alloc ?_ _)); refine blk_far ?_ NB276_291.out _; (with_reducible repeat (first | refine blk_drewN ?_ _ | refine blk_drew ?_ | refine blk_alloc ?_ _)); exact BK276.out) hb); replace BK285 := Aside0.mk (blk_below (g := gb285) (o := .cells #[.int .i64 t277, .int .i64 t278, .slice Ao43 t279.length co43, .int .i64 t282, .int .i64 t283] 24 (0, 0)) (by (with_reducible repeat (first | refine blk_drewN ?_ _ | refine blk_drew ?_ | refine blk_alloc ?_ _)); refine blk_far ?_ NB285_291.out _; (with_reducible repeat (first | refine blk_drewN ?_ _ | refine blk_drew ?_ | refine blk_alloc ?_ _)); refine blk_far ?_ NB285_291.out _; (with_reducible repeat (first | refine blk_drewN ?_ _ | refine blk_drew ?_ | refine blk_alloc ?_ _)); refine blk_far ?_ NB285_291.out _; (with_reducible repeat (first | refine blk_drewN ?_ _ | refine blk_drew ?_ | refine blk_alloc ?_ _)); refine blk_far ?_ NB285_291.out _; (with_reducible repeat (first | refine blk_drewN ?_ _ | refine blk_drew ?_ | refine blk_alloc ?_ _)); exact BK285.out) hb); replace BK291 := Aside0.mk (blk_below (g := gb291) (o := .cells #[.int .i64 t286, .int .i64 t287, .int .i64 t288, .int .i64 t289] 26 (0, 0)) (by (with_reducible repeat (first | refine blk_drewN ?_ _ | refine blk_drew ?_ | refine blk_alloc ?_ _)); refine blk_put (cs := #[.int .i64 t286, .int .i64 t287, .int .i64 t288, .int .i64 0]) ?_ 3 _ rfl; (with_reducible repeat (first | refine blk_drewN ?_ _ | refine blk_drew ?_ | refine blk_alloc ?_ _)); refine blk_put (cs := #[.int .i64 t286, .int .i64 t287, .int .i64 0, .int .i64 0]) ?_ 2 _ rfl; (with_reducible repeat (first | refine blk_drewN ?_ _ | refine blk_drew ?_ | refine blk_alloc ?_ _)); refine blk_put (cs := #[.int .i64 t286, .int .i64 0, .int .i64 0, .int .i64 0]) ?_ 1 _ rfl; (with_reducible repeat (first | refine blk_drewN ?_ _ | refine blk_drew ?_ | refine blk_alloc ?_ _)); refine blk_put (cs := #[.int .i64 0, .int .i64 0, .int .i64 0, .int .i64 0]) ?_ 0 _ rfl; (with_reducible repeat (first | refine blk_drewN ?_ _ | refine blk_drew ?_ | refine blk_alloc ?_ _)); exact BK291.out) hb); replace HB := tB HB hb; (try clear hb); (try clear hb2); (try clear hk); (try clear hi)) | ((with_reducible refine gate_dst (N := 11) rfl ?_); refine box_event ?hg (N := 11) ?hd (cs := #[.int .i64 0, .int .i64 0, .int .i64 0, .int .i64 0]) (t := 26) ?hr ?_; (case hd => rfl); (case hg => rfl); (case hr => first | (go_simp; done) | (go_simp; rfl)); intro gb297 hg w54 hbox hb; replace HO272 := Aside0.mk (Kd.R_below (by (with_reducible repeat (first | apply Kd.R_alloc | apply Kd.R_drewN | apply Kd.R_drew)); exact HO272.out) hb); replace HO281 := Aside0.mk (Kd.R_below (by (with_reducible repeat (first | apply Kd.R_alloc | apply Kd.R_drewN | apply Kd.R_drew)); exact HO281.out) hb); have BK297 := Aside0.mk (hbox); have GW297 := gZ HB hg; have GE297 := gZ HB hg; replace HB := tB HB hb; have NB265_297 := Aside0.mk ((by rw [hg]; exact Nat.ne_of_lt (blk_lt (g := gb265) (o := .cells #[.int .i64 a0_0, .int .i64 a0_1, .slice A0_2 l0_2.length c0_2, .int .i64 a0_3, .int .i64 a0_4] 24 (0, 0)) (by (with_reducible repeat (first | refine blk_drewN ?_ _ | refine blk_drew ?_ | refine blk_alloc ?_ _)); exact BK265.out)) : gb265 ≠ gb297)); have NB297_265 := Aside0.mk ((by rw [hg]; exact Nat.ne_of_gt (blk_lt (g := gb265) (o := .cells #[.int .i64 a0_0, .int .i64 a0_1, .slice A0_2 l0_2.length c0_2, .int .i64 a0_3, .int .i64 a0_4] 24 (0, 0)) (by (with_reducible repeat (first | refine blk_drewN ?_ _ | refine blk_drew ?_ | refine blk_alloc ?_ _)); exact BK265.out)) : gb297 ≠ gb265)); replace BK265 := Aside0.mk (blk_below (g := gb265) (o := .cells #[.int .i64 a0_0, .int .i64 a0_1, .slice A0_2 l0_2.length c0_2, .int .i64 a0_3, .int .i64 a0_4] 24 (0, 0)) (by (with_reducible repeat (first | refine blk_drewN ?_ _ | refine blk_drew ?_ | refine blk_alloc ?_ _)); exact BK265.out) hb); have NB266_297 := Aside0.mk ((by rw [hg]; exact Nat.ne_of_lt (blk_lt (g := gb266) (o := .cells #[.int .i64 a1_0, .int .i64 a1_1, .int .i64 a1_2, .int .i64 a1_3] 26 (0, 0)) (by (with_reducible repeat (first | refine blk_drewN ?_ _ | refine blk_drew ?_ | refine blk_alloc ?_ _)); exact BK266.out)) : gb266 ≠ gb297)); have NB297_266 := Aside0.mk ((by rw [hg]; exact Nat.ne_of_gt (blk_lt (g := gb266) (o := .cells #[.int .i64 a1_0, .int .i64 a1_1, .int .i64 a1_2, .int .i64 a1_3] 26 (0, 0)) (by (with_reducible repeat (first | refine blk_drewN ?_ _ | refine blk_drew ?_ | refine blk_alloc ?_ _)); exact BK266.out)) : gb297 ≠ gb266)); replace BK266 := Aside0.mk (blk_below (g := gb266) (o := .cells #[.int .i64 a1_0, .int .i64 a1_1, .int .i64 a1_2, .int .i64 a1_3] 26 (0, 0)) (by (with_reducible repeat (first | refine blk_drewN ?_ _ | refine blk_drew ?_ | refine blk_alloc ?_ _)); exact BK266.out) hb); have NB276_297 := Aside0.mk ((by rw [hg]; exact Nat.ne_of_lt (blk_lt (g := gb276) (o := .cells #[.int .i64 t268, .int .i64 t269, .slice Ao35 t270.length co35, .int .i64 t273, .int .i64 t274] 24 (0, 0)) (by (with_reducible repeat (first | refine blk_drewN ?_ _ | refine blk_drew ?_ | refine blk_alloc ?_ _)); exact BK276.out)) : gb276 ≠ gb297)); have NB297_276 := Aside0.mk ((by rw [hg]; exact Nat.ne_of_gt (blk_lt (g := gb276) (o := .cells #[.int .i64 t268, .int .i64 t269, .slice Ao35 t270.length co35, .int .i64 t273, .int .i64 t274] 24 (0, 0)) (by (with_reducible repeat (first | refine blk_drewN ?_ _ | refine blk_drew ?_ | refine blk_alloc ?_ _)); exact BK276.out)) : gb297 ≠ gb276)); replace BK276 := Aside0.mk (blk_below (g := gb276) (o := .cells #[.int .i64 t268, .int .i64 t269, .slice Ao35 t270.length co35, .int .i64 t273, .int .i64 t274] 24 (0, 0)) (by (with_reducible repeat (first | refine blk_drewN ?_ _ | refine blk_drew ?_ | refine blk_alloc ?_ _)); exact BK276.out) hb); have NB285_297 := Aside0.mk ((by rw [hg]; exact Nat.ne_of_lt (blk_lt (g := gb285) (o := .cells #[.int .i64 t277, .int .i64 t278, .slice Ao43 t279.length co43, .int .i64 t282, .int .i64 t283] 24 (0, 0)) (by (with_reducible repeat (first | refine blk_drewN ?_ _ | refine blk_drew ?_ | refine blk_alloc ?_ _)); exact BK285.out)) : gb285 ≠ gb297)); have NB297_285 := Aside0.mk ((by rw [hg]; exact Nat.ne_of_gt (blk_lt (g := gb285) (o := .cells #[.int .i64 t277, .int .i64 t278, .slice Ao43 t279.length co43, .int .i64 t282, .int .i64 t283] 24 (0, 0)) (by (with_reducible repeat (first | refine blk_drewN ?_ _ | refine blk_drew ?_ | refine blk_alloc ?_ _)); exact BK285.out)) : gb297 ≠ gb285)); replace BK285 := Aside0.mk (blk_below (g := gb285) (o := .cells #[.int .i64 t277, .int .i64 t278, .slice Ao43 t279.length co43, .int .i64 t282, .int .i64 t283] 24 (0, 0)) (by (with_reducible repeat (first | refine blk_drewN ?_ _ | refine blk_drew ?_ | refine blk_alloc ?_ _)); exact BK285.out) hb); have NB291_297 := Aside0.mk ((by rw [hg]; exact Nat.ne_of_lt (blk_lt (g := gb291) (o := .cells #[.int .i64 t286, .int .i64 t287, .int .i64 t288, .int .i64 t289] 26 (0, 0)) (by (with_reducible repeat (first | refine blk_drewN ?_ _ | refine blk_drew ?_ | refine blk_alloc ?_ _)); exact BK291.out)) : gb291 ≠ gb297)); have NB297_291 := Aside0.mk ((by rw [hg]; exact Nat.ne_of_gt (blk_lt (g := gb291) (o := .cells #[.int .i64 t286, .int .i64 t287, .int .i64 t288, .int .i64 t289] 26 (0, 0)) (by (with_reducible repeat (first | refine blk_drewN ?_ _ | refine blk_drew ?_ | refine blk_alloc ?_ _)); exact BK291.out)) : gb297 ≠ gb291)); replace BK291 := Aside0.mk (blk_below (g := gb291) (o := .cells #[.int .i64 t286, .int .i64 t287, .int .i64 t288, .int .i64 t289] 26 (0, 0)) (by (with_reducible repeat (first | refine blk_drewN ?_ _ | refine blk_drew ?_ | refine blk_alloc ?_ _)); exact BK291.out) hb); clear hb hbox hg; have hnb55 := NB297_265.out; have hnc55 := NB265_297.out; have hnb56 := NB297_266.out; have hnc56 := NB266_297.out; have hnb57 := NB297_276.out; have hnc57 := NB276_297.out; have hnb58 := NB297_285.out; have hnc58 := NB285_297.out; have hnb59 := NB297_291.out; have hnc59 := NB291_297.out; obtain ⟨hcz60_0, hcz60_1, hcz60_2, hcz60_3⟩ := cz4 BK297.out; obtain ⟨hfz60_0, hfz60_1, hfz60_2, hfz60_3⟩ := fz4 BK297.out))
                have n0_ : Aside0 (Kd.R (Kd.int .i64) 3 ((((w54.setCell ⟨gb297, 0, none⟩ (.int .i64 t292)).setCell ⟨gb297, 1, none⟩ (.int .i64 t293)).setCell ⟨gb297, 2, none⟩ (.int .i64 t294)).setCell ⟨gb297, 3, none⟩ (.int .i64 t295)) w.heap.size (fun k_ => some k_ ≠ (.slice Ao43 t279.length co43 : Value).ownBlock) (.slice Ao35 t270.length co35) t270) := ⟨by (with_reducible repeat (first | apply Kd.R_alloc | apply Kd.R_drewN | apply Kd.R_drew)); exact Kd.R_mono (rf4 gb297 0 (Kd.R_types HO272.out BK297.out (by decide)) (fun _ hk => hk.2) (.int .i64 t292) (.int .i64 t293) (.int .i64 t294) (.int .i64 t295)) (fun _ hk => hk.1.2)⟩
                have n1_ : Aside0 (Kd.R (Kd.int .i64) 3 ((((w54.setCell ⟨gb297, 0, none⟩ (.int .i64 t292)).setCell ⟨gb297, 1, none⟩ (.int .i64 t293)).setCell ⟨gb297, 2, none⟩ (.int .i64 t294)).setCell ⟨gb297, 3, none⟩ (.int .i64 t295)) w.heap.size (fun k_ => some k_ ≠ (.slice Ao35 t270.length co35 : Value).ownBlock) (.slice Ao43 t279.length co43) t279) := ⟨by (with_reducible repeat (first | apply Kd.R_alloc | apply Kd.R_drewN | apply Kd.R_drew)); exact Kd.R_mono (rf4 gb297 0 (Kd.R_types HO281.out BK297.out (by decide)) (fun _ hk => hk.2) (.int .i64 t292) (.int .i64 t293) (.int .i64 t294) (.int .i64 t295)) (fun _ hk => hk.1.2)⟩
                have n2_ : Aside0 (((((w54.setCell ⟨gb297, 0, none⟩ (.int .i64 t292)).setCell ⟨gb297, 1, none⟩ (.int .i64 t293)).setCell ⟨gb297, 2, none⟩ (.int .i64 t294)).setCell ⟨gb297, 3, none⟩ (.int .i64 t295)).heap[gb265]? = some (.cells #[.int .i64 a0_0, .int .i64 a0_1, .slice A0_2 l0_2.length c0_2, .int .i64 a0_3, .int .i64 a0_4] 24 (0, 0))) := ⟨by (with_reducible repeat (first | refine blk_drewN ?_ _ | refine blk_drew ?_ | refine blk_alloc ?_ _)); refine blk_far ?_ NB265_297.out _; (with_reducible repeat (first | refine blk_drewN ?_ _ | refine blk_drew ?_ | refine blk_alloc ?_ _)); refine blk_far ?_ NB265_297.out _; (with_reducible repeat (first | refine blk_drewN ?_ _ | refine blk_drew ?_ | refine blk_alloc ?_ _)); refine blk_far ?_ NB265_297.out _; (with_reducible repeat (first | refine blk_drewN ?_ _ | refine blk_drew ?_ | refine blk_alloc ?_ _)); refine blk_far ?_ NB265_297.out _; (with_reducible repeat (first | refine blk_drewN ?_ _ | refine blk_drew ?_ | refine blk_alloc ?_ _)); exact BK265.out⟩
                have n3_ : Aside0 (((((w54.setCell ⟨gb297, 0, none⟩ (.int .i64 t292)).setCell ⟨gb297, 1, none⟩ (.int .i64 t293)).setCell ⟨gb297, 2, none⟩ (.int .i64 t294)).setCell ⟨gb297, 3, none⟩ (.int .i64 t295)).heap[gb266]? = some (.cells #[.int .i64 a1_0, .int .i64 a1_1, .int .i64 a1_2, .int .i64 a1_3] 26 (0, 0))) := ⟨by (with_reducible repeat (first | refine blk_drewN ?_ _ | refine blk_drew ?_ | refine blk_alloc ?_ _)); refine blk_far ?_ NB266_297.out _; (with_reducible repeat (first | refine blk_drewN ?_ _ | refine blk_drew ?_ | refine blk_alloc ?_ _)); refine blk_far ?_ NB266_297.out _; (with_reducible repeat (first | refine blk_drewN ?_ _ | refine blk_drew ?_ | refine blk_alloc ?_ _)); refine blk_far ?_ NB266_297.out _; (with_reducible repeat (first | refine blk_drewN ?_ _ | refine blk_drew ?_ | refine blk_alloc ?_ _)); refine blk_far ?_ NB266_297.out _; (with_reducible repeat (first | refine blk_drewN ?_ _ | refine blk_drew ?_ | refine blk_alloc ?_ _)); exact BK266.out⟩
                have n4_ : Aside0 (((((w54.setCell ⟨gb297, 0, none⟩ (.int .i64 t292)).setCell ⟨gb297, 1, none⟩ (.int .i64 t293)).setCell ⟨gb297, 2, none⟩ (.int .i64 t294)).setCell ⟨gb297, 3, none⟩ (.int .i64 t295)).heap[gb276]? = some (.cells #[.int .i64 t268, .int .i64 t269, .slice Ao35 t270.length co35, .int .i64 t273, .int .i64 t274] 24 (0, 0))) := ⟨by (with_reducible repeat (first | refine blk_drewN ?_ _ | refine blk_drew ?_ | refine blk_alloc ?_ _)); refine blk_far ?_ NB276_297.out _; (with_reducible repeat (first | refine blk_drewN ?_ _ | refine blk_drew ?_ | refine blk_alloc ?_ _)); refine blk_far ?_ NB276_297.out _; (with_reducible repeat (first | refine blk_drewN ?_ _ | refine blk_drew ?_ | refine blk_alloc ?_ _)); refine blk_far ?_ NB276_297.out _; (with_reducible repeat (first | refine blk_drewN ?_ _ | refine blk_drew ?_ | refine blk_alloc ?_ _)); refine blk_far ?_ NB276_297.out _; (with_reducible repeat (first | refine blk_drewN ?_ _ | refine blk_drew ?_ | refine blk_alloc ?_ _)); exact BK276.out⟩
                have n5_ : Aside0 (((((w54.setCell ⟨gb297, 0, none⟩ (.int .i64 t292)).setCell ⟨gb297, 1, none⟩ (.int .i64 t293)).setCell ⟨gb297, 2, none⟩ (.int .i64 t294)).setCell ⟨gb297, 3, none⟩ (.int .i64 t295)).heap[gb285]? = some (.cells #[.int .i64 t277, .int .i64 t278, .slice Ao43 t279.length co43, .int .i64 t282, .int .i64 t283] 24 (0, 0))) := ⟨by (with_reducible repeat (first | refine blk_drewN ?_ _ | refine blk_drew ?_ | refine blk_alloc ?_ _)); refine blk_far ?_ NB285_297.out _; (with_reducible repeat (first | refine blk_drewN ?_ _ | refine blk_drew ?_ | refine blk_alloc ?_ _)); refine blk_far ?_ NB285_297.out _; (with_reducible repeat (first | refine blk_drewN ?_ _ | refine blk_drew ?_ | refine blk_alloc ?_ _)); refine blk_far ?_ NB285_297.out _; (with_reducible repeat (first | refine blk_drewN ?_ _ | refine blk_drew ?_ | refine blk_alloc ?_ _)); refine blk_far ?_ NB285_297.out _; (with_reducible repeat (first | refine blk_drewN ?_ _ | refine blk_drew ?_ | refine blk_alloc ?_ _)); exact BK285.out⟩
                have n6_ : Aside0 (((((w54.setCell ⟨gb297, 0, none⟩ (.int .i64 t292)).setCell ⟨gb297, 1, none⟩ (.int .i64 t293)).setCell ⟨gb297, 2, none⟩ (.int .i64 t294)).setCell ⟨gb297, 3, none⟩ (.int .i64 t295)).heap[gb291]? = some (.cells #[.int .i64 t286, .int .i64 t287, .int .i64 t288, .int .i64 t289] 26 (0, 0))) := ⟨by (with_reducible repeat (first | refine blk_drewN ?_ _ | refine blk_drew ?_ | refine blk_alloc ?_ _)); refine blk_far ?_ NB291_297.out _; (with_reducible repeat (first | refine blk_drewN ?_ _ | refine blk_drew ?_ | refine blk_alloc ?_ _)); refine blk_far ?_ NB291_297.out _; (with_reducible repeat (first | refine blk_drewN ?_ _ | refine blk_drew ?_ | refine blk_alloc ?_ _)); refine blk_far ?_ NB291_297.out _; (with_reducible repeat (first | refine blk_drewN ?_ _ | refine blk_drew ?_ | refine blk_alloc ?_ _)); refine blk_far ?_ NB291_297.out _; (with_reducible repeat (first | refine blk_drewN ?_ _ | refine blk_drew ?_ | refine blk_alloc ?_ _)); exact BK291.out⟩
                have n7_ : Aside0 (((((w54.setCell ⟨gb297, 0, none⟩ (.int .i64 t292)).setCell ⟨gb297, 1, none⟩ (.int .i64 t293)).setCell ⟨gb297, 2, none⟩ (.int .i64 t294)).setCell ⟨gb297, 3, none⟩ (.int .i64 t295)).heap[gb297]? = some (.cells #[.int .i64 t292, .int .i64 t293, .int .i64 t294, .int .i64 t295] 26 (0, 0))) := ⟨by (with_reducible repeat (first | refine blk_drewN ?_ _ | refine blk_drew ?_ | refine blk_alloc ?_ _)); refine blk_put (cs := #[.int .i64 t292, .int .i64 t293, .int .i64 t294, .int .i64 0]) ?_ 3 _ rfl; (with_reducible repeat (first | refine blk_drewN ?_ _ | refine blk_drew ?_ | refine blk_alloc ?_ _)); refine blk_put (cs := #[.int .i64 t292, .int .i64 t293, .int .i64 0, .int .i64 0]) ?_ 2 _ rfl; (with_reducible repeat (first | refine blk_drewN ?_ _ | refine blk_drew ?_ | refine blk_alloc ?_ _)); refine blk_put (cs := #[.int .i64 t292, .int .i64 0, .int .i64 0, .int .i64 0]) ?_ 1 _ rfl; (with_reducible repeat (first | refine blk_drewN ?_ _ | refine blk_drew ?_ | refine blk_alloc ?_ _)); refine blk_put (cs := #[.int .i64 0, .int .i64 0, .int .i64 0, .int .i64 0]) ?_ 0 _ rfl; (with_reducible repeat (first | refine blk_drewN ?_ _ | refine blk_drew ?_ | refine blk_alloc ?_ _)); exact BK297.out⟩
                have n8_ : Aside0 (Below w.heap.size w ((((w54.setCell ⟨gb297, 0, none⟩ (.int .i64 t292)).setCell ⟨gb297, 1, none⟩ (.int .i64 t293)).setCell ⟨gb297, 2, none⟩ (.int .i64 t294)).setCell ⟨gb297, 3, none⟩ (.int .i64 t295))) := ⟨kB HB.out⟩
                (try clear HO272)
                (try clear HO281)
                (try clear BK265)
                (try clear BK266)
                (try clear BK276)
                (try clear BK285)
                (try clear BK291)
                (try clear BK297)
                (try clear HB)
                generalize ((((w54.setCell ⟨gb297, 0, none⟩ (.int .i64 t292)).setCell ⟨gb297, 1, none⟩ (.int .i64 t293)).setCell ⟨gb297, 2, none⟩ (.int .i64 t294)).setCell ⟨gb297, 3, none⟩ (.int .i64 t295)) = w61 at n0_ n1_ n2_ n3_ n4_ n5_ n6_ n7_ n8_ ⊢
                have HO272 := n0_
                have HO281 := n1_
                have BK265 := n2_
                have BK266 := n3_
                have BK276 := n4_
                have BK285 := n5_
                have BK291 := n6_
                have BK297 := n7_
                have HB := n8_
                clear n0_ n1_ n2_ n3_ n4_ n5_ n6_ n7_ n8_
                have n0_ := Aside0.mk (Kd.R_drew HO272.out)
                have n1_ := Aside0.mk (Kd.R_drew HO281.out)
                have n2_ := Aside0.mk (blk_drew BK265.out)
                have n3_ := Aside0.mk (blk_drew BK266.out)
                have n4_ := Aside0.mk (blk_drew BK276.out)
                have n5_ := Aside0.mk (blk_drew BK285.out)
                have n6_ := Aside0.mk (blk_drew BK291.out)
                have n7_ := Aside0.mk (blk_drew BK297.out)
                have n8_ := Aside0.mk (below_drew1 HB.out)
                clear HO272
                clear HO281
                clear BK265
                clear BK266
                clear BK276
                clear BK285
                clear BK291
                clear BK297
                clear HB
                have HO272 := n0_
                have HO281 := n1_
                have BK265 := n2_
                have BK266 := n3_
                have BK276 := n4_
                have BK285 := n5_
                have BK291 := n6_
                have BK297 := n7_
                have HB := n8_
                clear n0_ n1_ n2_ n3_ n4_ n5_ n6_ n7_ n8_
                refine start_ (n := 36) (S := fun w' => w'.cell? ⟨gb276, 0, none⟩ = some (.int .i64 t268) ∧ w'.cell? ⟨gb276, 1, none⟩ = some (.int .i64 t269) ∧ w'.cell? ⟨gb276, 2, none⟩ = some (.slice Ao35 t270.length co35) ∧ w'.cell? ⟨gb276, 3, none⟩ = some (.int .i64 t273) ∧ w'.cell? ⟨gb276, 4, none⟩ = some (.int .i64 t274) ∧ w'.cell? ⟨gb285, 0, none⟩ = some (.int .i64 t277) ∧ w'.cell? ⟨gb285, 1, none⟩ = some (.int .i64 t278) ∧ w'.cell? ⟨gb285, 2, none⟩ = some (.slice Ao43 t279.length co43) ∧ w'.cell? ⟨gb285, 3, none⟩ = some (.int .i64 t282) ∧ w'.cell? ⟨gb285, 4, none⟩ = some (.int .i64 t283) ∧ w'.cell? ⟨gb291, 0, none⟩ = some (.int .i64 t286) ∧ w'.cell? ⟨gb291, 1, none⟩ = some (.int .i64 t287) ∧ w'.cell? ⟨gb291, 2, none⟩ = some (.int .i64 t288) ∧ w'.cell? ⟨gb291, 3, none⟩ = some (.int .i64 t289) ∧ w'.cell? ⟨gb297, 0, none⟩ = some (.int .i64 t292) ∧ w'.cell? ⟨gb297, 1, none⟩ = some (.int .i64 t293) ∧ w'.cell? ⟨gb297, 2, none⟩ = some (.int .i64 t294) ∧ w'.cell? ⟨gb297, 3, none⟩ = some (.int .i64 t295) ∧ w'.cell? ⟨gb265, 0, none⟩ = some (.int .i64 a0_0) ∧ w'.cell? ⟨gb265, 1, none⟩ = some (.int .i64 a0_1) ∧ w'.cell? ⟨gb265, 2, none⟩ = some (.slice A0_2 l0_2.length c0_2) ∧ w'.cell? ⟨gb265, 3, none⟩ = some (.int .i64 a0_3) ∧ w'.cell? ⟨gb265, 4, none⟩ = some (.int .i64 a0_4) ∧ w'.cell? ⟨gb266, 0, none⟩ = some (.int .i64 a1_0) ∧ w'.cell? ⟨gb266, 1, none⟩ = some (.int .i64 a1_1) ∧ w'.cell? ⟨gb266, 2, none⟩ = some (.int .i64 a1_2) ∧ w'.cell? ⟨gb266, 3, none⟩ = some (.int .i64 a1_3)) (ds := []) #[false, false, false, false, false, false, false, false, false, false, false, false, false, false, false, false, false, false, false, false, false, false, false, false, false, false, false, false, false, false, false, false, false, false, false, false] (by kernel_rfl) rfl rfl ⟨(blk_cell BK276.out 0).trans rfl, (blk_cell BK276.out 1).trans rfl, (blk_cell BK276.out 2).trans rfl, (blk_cell BK276.out 3).trans rfl, (blk_cell BK276.out 4).trans rfl, (blk_cell BK285.out 0).trans rfl, (blk_cell BK285.out 1).trans rfl, (blk_cell BK285.out 2).trans rfl, (blk_cell BK285.out 3).trans rfl, (blk_cell BK285.out 4).trans rfl, (blk_cell BK291.out 0).trans rfl, (blk_cell BK291.out 1).trans rfl, (blk_cell BK291.out 2).trans rfl, (blk_cell BK291.out 3).trans rfl, (blk_cell BK297.out 0).trans rfl, (blk_cell BK297.out 1).trans rfl, (blk_cell BK297.out 2).trans rfl, (blk_cell BK297.out 3).trans rfl, (blk_cell BK265.out 0).trans rfl, (blk_cell BK265.out 1).trans rfl, (blk_cell BK265.out 2).trans rfl, (blk_cell BK265.out 3).trans rfl, (blk_cell BK265.out 4).trans rfl, (blk_cell BK266.out 0).trans rfl, (blk_cell BK266.out 1).trans rfl, (blk_cell BK266.out 2).trans rfl, (blk_cell BK266.out 3).trans rfl⟩ (fun hHeld => ?_); refine with_tabW standbylaw32_CommitStarts.tab7 standbylaw32_CommitStarts.bits7 (fun HT_ HW_ => ?_)
                generalize w61.drew = w62 at HO272 HO281 BK265 BK266 BK276 BK285 BK291 BK297 HB hHeld ⊢
                refine one_ (i := 0) (N := some 58) #[true, false, false, false, false, false, false, false, false, false, false, false, false, false, false, false, false, false, false, false, false, false, false, false, false, false, false, false, false, false, false, false, false, false, false, false] rfl rfl (one_of HT_.out (by kernel_rfl)) (by decide) (fun K hK => ?_)
                refine goes_ Try.func12 (by kernel_rfl) rfl #[] (by rfl) rfl rfl (by (try simp only [List.map_toArray, List.map_cons, List.map_nil]); first | done | rfl | (simp only [List.length_drop, List.length_take]; rfl)) ?_
                with_reducible refine (standbylaw32_awake.calls k  true _ A14.out).mono ?_
                rintro e w63 ⟨rfl, hb⟩
                refine ⟨_, rfl, ?_⟩
                have n0_ := Aside0.mk (Kd.R_below (by (with_reducible repeat (first | apply Kd.R_alloc | apply Kd.R_drewN | apply Kd.R_drew)); exact HO272.out) hb)
                have n1_ := Aside0.mk (Kd.R_below (by (with_reducible repeat (first | apply Kd.R_alloc | apply Kd.R_drewN | apply Kd.R_drew)); exact HO281.out) hb)
                have n2_ := Aside0.mk (blk_below (g := gb265) (o := .cells #[.int .i64 a0_0, .int .i64 a0_1, .slice A0_2 l0_2.length c0_2, .int .i64 a0_3, .int .i64 a0_4] 24 (0, 0)) (by (with_reducible repeat (first | refine blk_drewN ?_ _ | refine blk_drew ?_ | refine blk_alloc ?_ _)); exact BK265.out) hb)
                have n3_ := Aside0.mk (blk_below (g := gb266) (o := .cells #[.int .i64 a1_0, .int .i64 a1_1, .int .i64 a1_2, .int .i64 a1_3] 26 (0, 0)) (by (with_reducible repeat (first | refine blk_drewN ?_ _ | refine blk_drew ?_ | refine blk_alloc ?_ _)); exact BK266.out) hb)
                have n4_ := Aside0.mk (blk_below (g := gb276) (o := .cells #[.int .i64 t268, .int .i64 t269, .slice Ao35 t270.length co35, .int .i64 t273, .int .i64 t274] 24 (0, 0)) (by (with_reducible repeat (first | refine blk_drewN ?_ _ | refine blk_drew ?_ | refine blk_alloc ?_ _)); exact BK276.out) hb)
                have n5_ := Aside0.mk (blk_below (g := gb285) (o := .cells #[.int .i64 t277, .int .i64 t278, .slice Ao43 t279.length co43, .int .i64 t282, .int .i64 t283] 24 (0, 0)) (by (with_reducible repeat (first | refine blk_drewN ?_ _ | refine blk_drew ?_ | refine blk_alloc ?_ _)); exact BK285.out) hb)
                have n6_ := Aside0.mk (blk_below (g := gb291) (o := .cells #[.int .i64 t286, .int .i64 t287, .int .i64 t288, .int .i64 t289] 26 (0, 0)) (by (with_reducible repeat (first | refine blk_drewN ?_ _ | refine blk_drew ?_ | refine blk_alloc ?_ _)); exact BK291.out) hb)
                have n7_ := Aside0.mk (blk_below (g := gb297) (o := .cells #[.int .i64 t292, .int .i64 t293, .int .i64 t294, .int .i64 t295] 26 (0, 0)) (by (with_reducible repeat (first | refine blk_drewN ?_ _ | refine blk_drew ?_ | refine blk_alloc ?_ _)); exact BK297.out) hb)
                have n8_ := tB HB hb
                clear HO272
                clear HO281
                clear BK265
                clear BK266
                clear BK276
                clear BK285
                clear BK291
                clear BK297
                clear HB
                have HO272 := n0_
                have HO281 := n1_
                have BK265 := n2_
                have BK266 := n3_
                have BK276 := n4_
                have BK285 := n5_
                have BK291 := n6_
                have BK297 := n7_
                have HB := n8_
                clear n0_ n1_ n2_ n3_ n4_ n5_ n6_ n7_ n8_
                (try clear hb)
                (try clear hb2)
                (try clear hk)
                (try clear hi)
                refine hK.out _ _ ⟨(blk_cell BK276.out 0).trans rfl, (blk_cell BK276.out 1).trans rfl, (blk_cell BK276.out 2).trans rfl, (blk_cell BK276.out 3).trans rfl, (blk_cell BK276.out 4).trans rfl, (blk_cell BK285.out 0).trans rfl, (blk_cell BK285.out 1).trans rfl, (blk_cell BK285.out 2).trans rfl, (blk_cell BK285.out 3).trans rfl, (blk_cell BK285.out 4).trans rfl, (blk_cell BK291.out 0).trans rfl, (blk_cell BK291.out 1).trans rfl, (blk_cell BK291.out 2).trans rfl, (blk_cell BK291.out 3).trans rfl, (blk_cell BK297.out 0).trans rfl, (blk_cell BK297.out 1).trans rfl, (blk_cell BK297.out 2).trans rfl, (blk_cell BK297.out 3).trans rfl, (blk_cell BK265.out 0).trans rfl, (blk_cell BK265.out 1).trans rfl, (blk_cell BK265.out 2).trans rfl, (blk_cell BK265.out 3).trans rfl, (blk_cell BK265.out 4).trans rfl, (blk_cell BK266.out 0).trans rfl, (blk_cell BK266.out 1).trans rfl, (blk_cell BK266.out 2).trans rfl, (blk_cell BK266.out 3).trans rfl⟩ (fun hHeld => ?_)
                clear hK K
                refine norm_ (a' := ?_) ?_ ?_
                rotate_left
                · show Act.put _ (some 58) _ = _
                  simp only [Act.put, List.setIfInBounds_toArray, List.set_cons_zero, List.set_cons_succ, i64_w, i32_w]
                  rfl
                refine pure_ (i := 1) (N := some 59) (v := ?_) (a' := ?_) #[true, true, false, false, false, false, false, false, false, false, false, false, false, false, false, false, false, false, false, false, false, false, false, false, false, false, false, false, false, false, false, false, false, false, false, false] rfl rfl (any_of HT_.out (by kernel_rfl)) (fun _ _ _ h => h) (Or.inl ⟨by rfl, ?_⟩) ?_ ?_
                rotate_left
                · intro w'
                  go_simp
                  with_reducible rfl
                rotate_left
                · simp only [Act.put, List.setIfInBounds_toArray, List.set_cons_zero, List.set_cons_succ, i64_w, i32_w]
                  rfl
                refine take_ (i := 2) (N := some 60) (v := ?_) (a' := ?_) #[true, true, true, false, false, false, false, false, false, false, false, false, false, false, false, false, false, false, false, false, false, false, false, false, false, false, false, false, false, false, false, false, false, false, false, false] rfl rfl (take_ofW HT_.out HW_.out (by kernel_rfl)) (fun _ _ _ h => h) (Or.inl ⟨by rfl, ?_⟩) hHeld ?_ ?_
                rotate_left
                · rintro w' ⟨s0, s1, s2, s3, s4, s5, s6, s7, s8, s9, s10, s11, s12, s13, s14, s15, s16, s17, s18, s19, s20, s21, s22, s23, s24, s25, s26⟩
                  go_simp
                  with_reducible rfl
                rotate_left
                · simp only [Act.put, List.setIfInBounds_toArray, List.set_cons_zero, List.set_cons_succ, i64_w, i32_w]
                  rfl
                refine take_ (i := 3) (N := some 61) (v := ?_) (a' := ?_) #[true, true, true, true, false, false, false, false, false, false, false, false, false, false, false, false, false, false, false, false, false, false, false, false, false, false, false, false, false, false, false, false, false, false, false, false] rfl rfl (take_ofW HT_.out HW_.out (by kernel_rfl)) (fun _ _ _ h => h) (Or.inl ⟨by rfl, ?_⟩) hHeld ?_ ?_
                rotate_left
                · rintro w' ⟨s0, s1, s2, s3, s4, s5, s6, s7, s8, s9, s10, s11, s12, s13, s14, s15, s16, s17, s18, s19, s20, s21, s22, s23, s24, s25, s26⟩
                  go_simp
                  with_reducible rfl
                rotate_left
                · simp only [Act.put, List.setIfInBounds_toArray, List.set_cons_zero, List.set_cons_succ, i64_w, i32_w]
                  rfl
                refine one_ (i := 4) (N := some 62) #[true, true, true, true, true, false, false, false, false, false, false, false, false, false, false, false, false, false, false, false, false, false, false, false, false, false, false, false, false, false, false, false, false, false, false, false] rfl rfl (one_of HT_.out (by kernel_rfl)) (by decide) (fun K hK => ?_)
                refine goes_ Try.func17 (by kernel_rfl) rfl #[.agg #[.int .i64 t268, .int .i64 t269, .slice Ao35 t270.length co35, .int .i64 t273, .int .i64 t274], .agg #[.int .i64 t277, .int .i64 t278, .slice Ao43 t279.length co43, .int .i64 t282, .int .i64 t283]] (by rfl) rfl rfl (by (try simp only [List.map_toArray, List.map_cons, List.map_nil]); first | done | rfl | (simp only [List.length_drop, List.length_take]; rfl)) ?_
                with_reducible refine (standbyref32_Same.calls k t268 t269 _ _ t270 t273 t274 t277 t278 _ _ t279 t282 t283 true _ ?side1 ?side2 ?side3 ?side4 A16.out).mono ?_
                (case side1 => repeat (first | exact (Kd.R_reads' HO272.out).2.2 | (with_reducible refine Kd.C_alloc ?_ _) | (with_reducible refine Kd.C_drewN ?_ _) | (with_reducible refine Kd.C_drew ?_)))
                (case side2 => exact (Kd.R_reads' HO272.out).2.1)
                (case side3 => repeat (first | exact (Kd.R_reads' HO281.out).2.2 | (with_reducible refine Kd.C_alloc ?_ _) | (with_reducible refine Kd.C_drewN ?_ _) | (with_reducible refine Kd.C_drew ?_)))
                (case side4 => exact (Kd.R_reads' HO281.out).2.1)
                rintro e w64 ⟨rfl, hb⟩
                refine ⟨_, rfl, ?_⟩
                have n0_ := Aside0.mk (Kd.R_below (by (with_reducible repeat (first | apply Kd.R_alloc | apply Kd.R_drewN | apply Kd.R_drew)); exact HO272.out) hb)
                have n1_ := Aside0.mk (Kd.R_below (by (with_reducible repeat (first | apply Kd.R_alloc | apply Kd.R_drewN | apply Kd.R_drew)); exact HO281.out) hb)
                have n2_ := Aside0.mk (blk_below (g := gb265) (o := .cells #[.int .i64 a0_0, .int .i64 a0_1, .slice A0_2 l0_2.length c0_2, .int .i64 a0_3, .int .i64 a0_4] 24 (0, 0)) (by (with_reducible repeat (first | refine blk_drewN ?_ _ | refine blk_drew ?_ | refine blk_alloc ?_ _)); exact BK265.out) hb)
                have n3_ := Aside0.mk (blk_below (g := gb266) (o := .cells #[.int .i64 a1_0, .int .i64 a1_1, .int .i64 a1_2, .int .i64 a1_3] 26 (0, 0)) (by (with_reducible repeat (first | refine blk_drewN ?_ _ | refine blk_drew ?_ | refine blk_alloc ?_ _)); exact BK266.out) hb)
                have n4_ := Aside0.mk (blk_below (g := gb276) (o := .cells #[.int .i64 t268, .int .i64 t269, .slice Ao35 t270.length co35, .int .i64 t273, .int .i64 t274] 24 (0, 0)) (by (with_reducible repeat (first | refine blk_drewN ?_ _ | refine blk_drew ?_ | refine blk_alloc ?_ _)); exact BK276.out) hb)
                have n5_ := Aside0.mk (blk_below (g := gb285) (o := .cells #[.int .i64 t277, .int .i64 t278, .slice Ao43 t279.length co43, .int .i64 t282, .int .i64 t283] 24 (0, 0)) (by (with_reducible repeat (first | refine blk_drewN ?_ _ | refine blk_drew ?_ | refine blk_alloc ?_ _)); exact BK285.out) hb)
                have n6_ := Aside0.mk (blk_below (g := gb291) (o := .cells #[.int .i64 t286, .int .i64 t287, .int .i64 t288, .int .i64 t289] 26 (0, 0)) (by (with_reducible repeat (first | refine blk_drewN ?_ _ | refine blk_drew ?_ | refine blk_alloc ?_ _)); exact BK291.out) hb)
                have n7_ := Aside0.mk (blk_below (g := gb297) (o := .cells #[.int .i64 t292, .int .i64 t293, .int .i64 t294, .int .i64 t295] 26 (0, 0)) (by (with_reducible repeat (first | refine blk_drewN ?_ _ | refine blk_drew ?_ | refine blk_alloc ?_ _)); exact BK297.out) hb)
                have n8_ := tB HB hb
                clear HO272
                clear HO281
                clear BK265
                clear BK266
                clear BK276
                clear BK285
                clear BK291
                clear BK297
                clear HB
                have HO272 := n0_
                have HO281 := n1_
                have BK265 := n2_
                have BK266 := n3_
                have BK276 := n4_
                have BK285 := n5_
                have BK291 := n6_
                have BK297 := n7_
                have HB := n8_
                clear n0_ n1_ n2_ n3_ n4_ n5_ n6_ n7_ n8_
                (try clear hb)
                (try clear hb2)
                (try clear hk)
                (try clear hi)
                refine hK.out _ _ ⟨(blk_cell BK276.out 0).trans rfl, (blk_cell BK276.out 1).trans rfl, (blk_cell BK276.out 2).trans rfl, (blk_cell BK276.out 3).trans rfl, (blk_cell BK276.out 4).trans rfl, (blk_cell BK285.out 0).trans rfl, (blk_cell BK285.out 1).trans rfl, (blk_cell BK285.out 2).trans rfl, (blk_cell BK285.out 3).trans rfl, (blk_cell BK285.out 4).trans rfl, (blk_cell BK291.out 0).trans rfl, (blk_cell BK291.out 1).trans rfl, (blk_cell BK291.out 2).trans rfl, (blk_cell BK291.out 3).trans rfl, (blk_cell BK297.out 0).trans rfl, (blk_cell BK297.out 1).trans rfl, (blk_cell BK297.out 2).trans rfl, (blk_cell BK297.out 3).trans rfl, (blk_cell BK265.out 0).trans rfl, (blk_cell BK265.out 1).trans rfl, (blk_cell BK265.out 2).trans rfl, (blk_cell BK265.out 3).trans rfl, (blk_cell BK265.out 4).trans rfl, (blk_cell BK266.out 0).trans rfl, (blk_cell BK266.out 1).trans rfl, (blk_cell BK266.out 2).trans rfl, (blk_cell BK266.out 3).trans rfl⟩ (fun hHeld => ?_)
                clear hK K
                refine norm_ (a' := ?_) ?_ ?_
                rotate_left
                · show Act.put _ (some 62) _ = _
                  simp only [Act.put, List.setIfInBounds_toArray, List.set_cons_zero, List.set_cons_succ, i64_w, i32_w]
                  rfl
                refine pure_ (i := 5) (N := some 63) (v := ?_) (a' := ?_) #[true, true, true, true, true, true, false, false, false, false, false, false, false, false, false, false, false, false, false, false, false, false, false, false, false, false, false, false, false, false, false, false, false, false, false, false] rfl rfl (any_of HT_.out (by kernel_rfl)) (fun _ _ _ h => h) (Or.inl ⟨by rfl, ?_⟩) ?_ ?_
                rotate_left
                · intro w'
                  go_simp
                  with_reducible rfl
                rotate_left
                · simp only [Act.put, List.setIfInBounds_toArray, List.set_cons_zero, List.set_cons_succ, i64_w, i32_w]
                  rfl
                refine pure_ (i := 6) (N := some 64) (v := ?_) (a' := ?_) #[true, true, true, true, true, true, true, false, false, false, false, false, false, false, false, false, false, false, false, false, false, false, false, false, false, false, false, false, false, false, false, false, false, false, false, false] rfl rfl (any_of HT_.out (by kernel_rfl)) (fun _ _ _ h => h) (Or.inl ⟨by rfl, ?_⟩) ?_ ?_
                rotate_left
                · intro w'
                  go_simp
                  with_reducible rfl
                rotate_left
                · simp only [Act.put, List.setIfInBounds_toArray, List.set_cons_zero, List.set_cons_succ, i64_w, i32_w]
                  rfl
                refine pure_ (i := 7) (N := some 65) (v := ?_) (a' := ?_) #[true, true, true, true, true, true, true, true, false, false, false, false, false, false, false, false, false, false, false, false, false, false, false, false, false, false, false, false, false, false, false, false, false, false, false, false] rfl rfl (any_of HT_.out (by kernel_rfl)) (fun _ _ _ h => h) (Or.inl ⟨by rfl, ?_⟩) ?_ ?_
                rotate_left
                · intro w'
                  go_simp
                  with_reducible rfl
                rotate_left
                · simp only [Act.put, List.setIfInBounds_toArray, List.set_cons_zero, List.set_cons_succ, i64_w, i32_w]
                  rfl
                refine pure_ (i := 8) (N := some 66) (v := ?_) (a' := ?_) #[true, true, true, true, true, true, true, true, true, false, false, false, false, false, false, false, false, false, false, false, false, false, false, false, false, false, false, false, false, false, false, false, false, false, false, false] rfl rfl (any_of HT_.out (by kernel_rfl)) (fun _ _ _ h => h) (Or.inl ⟨by rfl, ?_⟩) ?_ ?_
                rotate_left
                · intro w'
                  go_simp
                  with_reducible rfl
                rotate_left
                · simp only [Act.put, List.setIfInBounds_toArray, List.set_cons_zero, List.set_cons_succ, i64_w, i32_w]
                  rfl
                refine pure_ (i := 9) (N := some 67) (v := ?_) (a' := ?_) #[true, true, true, true, true, true, true, true, true, true, false, false, false, false, false, false, false, false, false, false, false, false, false, false, false, false, false, false, false, false, false, false, false, false, false, false] rfl rfl (any_of HT_.out (by kernel_rfl)) (fun _ _ _ h => h) (Or.inl ⟨by rfl, ?_⟩) ?_ ?_
                rotate_left
                · intro w'
                  go_simp
                  with_reducible rfl
                rotate_left
                · simp only [Act.put, List.setIfInBounds_toArray, List.set_cons_zero, List.set_cons_succ, i64_w, i32_w]
                  rfl
                refine pure_ (i := 10) (N := some 68) (v := ?_) (a' := ?_) #[true, true, true, true, true, true, true, true, true, true, true, false, false, false, false, false, false, false, false, false, false, false, false, false, false, false, false, false, false, false, false, false, false, false, false, false] rfl rfl (any_of HT_.out (by kernel_rfl)) (fun _ _ _ h => h) (Or.inl ⟨by rfl, ?_⟩) ?_ ?_
                rotate_left
                · intro w'
                  go_simp
                  with_reducible rfl
                rotate_left
                · simp only [Act.put, List.setIfInBounds_toArray, List.set_cons_zero, List.set_cons_succ, i64_w, i32_w]
                  rfl
                refine pure_ (i := 11) (N := some 69) (v := ?_) (a' := ?_) #[true, true, true, true, true, true, true, true, true, true, true, true, false, false, false, false, false, false, false, false, false, false, false, false, false, false, false, false, false, false, false, false, false, false, false, false] rfl rfl (any_of HT_.out (by kernel_rfl)) (fun _ _ _ h => h) (Or.inl ⟨by rfl, ?_⟩) ?_ ?_
                rotate_left
                · intro w'
                  go_simp
                  with_reducible rfl
                rotate_left
                · simp only [Act.put, List.setIfInBounds_toArray, List.set_cons_zero, List.set_cons_succ, i64_w, i32_w]
                  rfl
                refine take_ (i := 12) (N := some 70) (v := ?_) (a' := ?_) #[true, true, true, true, true, true, true, true, true, true, true, true, true, false, false, false, false, false, false, false, false, false, false, false, false, false, false, false, false, false, false, false, false, false, false, false] rfl rfl (take_ofW HT_.out HW_.out (by kernel_rfl)) (fun _ _ _ h => h) (Or.inl ⟨by rfl, ?_⟩) hHeld ?_ ?_
                rotate_left
                · rintro w' ⟨s0, s1, s2, s3, s4, s5, s6, s7, s8, s9, s10, s11, s12, s13, s14, s15, s16, s17, s18, s19, s20, s21, s22, s23, s24, s25, s26⟩
                  go_simp
                  with_reducible rfl
                rotate_left
                · simp only [Act.put, List.setIfInBounds_toArray, List.set_cons_zero, List.set_cons_succ, i64_w, i32_w]
                  rfl
                refine take_ (i := 13) (N := some 71) (v := ?_) (a' := ?_) #[true, true, true, true, true, true, true, true, true, true, true, true, true, true, false, false, false, false, false, false, false, false, false, false, false, false, false, false, false, false, false, false, false, false, false, false] rfl rfl (take_ofW HT_.out HW_.out (by kernel_rfl)) (fun _ _ _ h => h) (Or.inl ⟨by rfl, ?_⟩) hHeld ?_ ?_
                rotate_left
                · rintro w' ⟨s0, s1, s2, s3, s4, s5, s6, s7, s8, s9, s10, s11, s12, s13, s14, s15, s16, s17, s18, s19, s20, s21, s22, s23, s24, s25, s26⟩
                  go_simp
                  with_reducible rfl
                rotate_left
                · simp only [Act.put, List.setIfInBounds_toArray, List.set_cons_zero, List.set_cons_succ, i64_w, i32_w]
                  rfl
                refine pure_ (i := 14) (N := some 72) (v := ?_) (a' := ?_) #[true, true, true, true, true, true, true, true, true, true, true, true, true, true, true, false, false, false, false, false, false, false, false, false, false, false, false, false, false, false, false, false, false, false, false, false] rfl rfl (any_of HT_.out (by kernel_rfl)) (fun _ _ _ h => h) (Or.inl ⟨by rfl, ?_⟩) ?_ ?_
                rotate_left
                · intro w'
                  go_simp
                  with_reducible rfl
                rotate_left
                · simp only [Act.put, List.setIfInBounds_toArray, List.set_cons_zero, List.set_cons_succ, i64_w, i32_w]
                  rfl
                refine pure_ (i := 15) (N := some 73) (v := ?_) (a' := ?_) #[true, true, true, true, true, true, true, true, true, true, true, true, true, true, true, true, false, false, false, false, false, false, false, false, false, false, false, false, false, false, false, false, false, false, false, false] rfl rfl (any_of HT_.out (by kernel_rfl)) (fun _ _ _ h => h) (Or.inl ⟨by rfl, ?_⟩) ?_ ?_
                rotate_left
                · intro w'
                  go_simp
                  with_reducible rfl
                rotate_left
                · simp only [Act.put, List.setIfInBounds_toArray, List.set_cons_zero, List.set_cons_succ, i64_w, i32_w]
                  rfl
                refine pure_ (i := 16) (N := some 74) (v := ?_) (a' := ?_) #[true, true, true, true, true, true, true, true, true, true, true, true, true, true, true, true, true, false, false, false, false, false, false, false, false, false, false, false, false, false, false, false, false, false, false, false] rfl rfl (any_of HT_.out (by kernel_rfl)) (fun _ _ _ h => h) (Or.inl ⟨by rfl, ?_⟩) ?_ ?_
                rotate_left
                · intro w'
                  go_simp
                  with_reducible rfl
                rotate_left
                · simp only [Act.put, List.setIfInBounds_toArray, List.set_cons_zero, List.set_cons_succ, i64_w, i32_w]
                  rfl
                refine pure_ (i := 17) (N := some 75) (v := ?_) (a' := ?_) #[true, true, true, true, true, true, true, true, true, true, true, true, true, true, true, true, true, true, false, false, false, false, false, false, false, false, false, false, false, false, false, false, false, false, false, false] rfl rfl (any_of HT_.out (by kernel_rfl)) (fun _ _ _ h => h) (Or.inl ⟨by rfl, ?_⟩) ?_ ?_
                rotate_left
                · intro w'
                  go_simp
                  with_reducible rfl
                rotate_left
                · simp only [Act.put, List.setIfInBounds_toArray, List.set_cons_zero, List.set_cons_succ, i64_w, i32_w]
                  rfl
                refine pure_ (i := 18) (N := some 76) (v := ?_) (a' := ?_) #[true, true, true, true, true, true, true, true, true, true, true, true, true, true, true, true, true, true, true, false, false, false, false, false, false, false, false, false, false, false, false, false, false, false, false, false] rfl rfl (any_of HT_.out (by kernel_rfl)) (fun _ _ _ h => h) (Or.inl ⟨by rfl, ?_⟩) ?_ ?_
                rotate_left
                · intro w'
                  go_simp
                  with_reducible rfl
                rotate_left
                · simp only [Act.put, List.setIfInBounds_toArray, List.set_cons_zero, List.set_cons_succ, i64_w, i32_w]
                  rfl
                refine pure_ (i := 19) (N := some 77) (v := ?_) (a' := ?_) #[true, true, true, true, true, true, true, true, true, true, true, true, true, true, true, true, true, true, true, true, false, false, false, false, false, false, false, false, false, false, false, false, false, false, false, false] rfl rfl (any_of HT_.out (by kernel_rfl)) (fun _ _ _ h => h) (Or.inl ⟨by rfl, ?_⟩) ?_ ?_
                rotate_left
                · intro w'
                  go_simp
                  with_reducible rfl
                rotate_left
                · simp only [Act.put, List.setIfInBounds_toArray, List.set_cons_zero, List.set_cons_succ, i64_w, i32_w]
                  rfl
                refine pure_ (i := 20) (N := some 78) (v := ?_) (a' := ?_) #[true, true, true, true, true, true, true, true, true, true, true, true, true, true, true, true, true, true, true, true, true, false, false, false, false, false, false, false, false, false, false, false, false, false, false, false] rfl rfl (any_of HT_.out (by kernel_rfl)) (fun _ _ _ h => h) (Or.inl ⟨by rfl, ?_⟩) ?_ ?_
                rotate_left
                · intro w'
                  go_simp
                  with_reducible rfl
                rotate_left
                · simp only [Act.put, List.setIfInBounds_toArray, List.set_cons_zero, List.set_cons_succ, i64_w, i32_w]
                  rfl
                refine pure_ (i := 21) (N := some 79) (v := ?_) (a' := ?_) #[true, true, true, true, true, true, true, true, true, true, true, true, true, true, true, true, true, true, true, true, true, true, false, false, false, false, false, false, false, false, false, false, false, false, false, false] rfl rfl (any_of HT_.out (by kernel_rfl)) (fun _ _ _ h => h) (Or.inl ⟨by rfl, ?_⟩) ?_ ?_
                rotate_left
                · intro w'
                  go_simp
                  with_reducible rfl
                rotate_left
                · simp only [Act.put, List.setIfInBounds_toArray, List.set_cons_zero, List.set_cons_succ, i64_w, i32_w]
                  rfl
                refine take_ (i := 22) (N := some 80) (v := ?_) (a' := ?_) #[true, true, true, true, true, true, true, true, true, true, true, true, true, true, true, true, true, true, true, true, true, true, true, false, false, false, false, false, false, false, false, false, false, false, false, false] rfl rfl (take_ofW HT_.out HW_.out (by kernel_rfl)) (fun _ _ _ h => h) (Or.inl ⟨by rfl, ?_⟩) hHeld ?_ ?_
                rotate_left
                · rintro w' ⟨s0, s1, s2, s3, s4, s5, s6, s7, s8, s9, s10, s11, s12, s13, s14, s15, s16, s17, s18, s19, s20, s21, s22, s23, s24, s25, s26⟩
                  go_simp
                  with_reducible rfl
                rotate_left
                · simp only [Act.put, List.setIfInBounds_toArray, List.set_cons_zero, List.set_cons_succ, i64_w, i32_w]
                  rfl
                refine take_ (i := 24) (N := some 82) (v := ?_) (a' := ?_) #[true, true, true, true, true, true, true, true, true, true, true, true, true, true, true, true, true, true, true, true, true, true, true, false, true, false, false, false, false, false, false, false, false, false, false, false] rfl rfl (take_ofW HT_.out HW_.out (by kernel_rfl)) (fun _ _ _ h => h) (Or.inl ⟨by rfl, ?_⟩) hHeld ?_ ?_
                rotate_left
                · rintro w' ⟨s0, s1, s2, s3, s4, s5, s6, s7, s8, s9, s10, s11, s12, s13, s14, s15, s16, s17, s18, s19, s20, s21, s22, s23, s24, s25, s26⟩
                  go_simp
                  with_reducible rfl
                rotate_left
                · simp only [Act.put, List.setIfInBounds_toArray, List.set_cons_zero, List.set_cons_succ, i64_w, i32_w]
                  rfl
                refine one_ (i := 23) (N := some 81) #[true, true, true, true, true, true, true, true, true, true, true, true, true, true, true, true, true, true, true, true, true, true, true, true, true, false, false, false, false, false, false, false, false, false, false, false] rfl rfl (one_of HT_.out (by kernel_rfl)) (by decide) (fun K hK => ?_)
                refine goes_ Try.func18 (by kernel_rfl) rfl #[.agg #[.int .i64 a0_0, .int .i64 a0_1, .slice A0_2 l0_2.length c0_2, .int .i64 a0_3, .int .i64 a0_4]] (by rfl) rfl rfl (by (try simp only [List.map_toArray, List.map_cons, List.map_nil]); first | done | rfl | (simp only [List.length_drop, List.length_take]; rfl)) ?_
                with_reducible refine (commit_CheckSource.calls k a0_0 a0_1 _ _ l0_2 a0_3 a0_4 t300 _ ?side1 ?side2 A21.out).mono ?_
                (case side1 => repeat (first | exact (Kd.C_below HR0_2.out HB.out) | (with_reducible refine Kd.C_alloc ?_ _) | (with_reducible refine Kd.C_drewN ?_ _) | (with_reducible refine Kd.C_drew ?_)))
                (case side2 => exact HC0_2.out)
                rintro e w65 ⟨rfl, hb⟩
                refine ⟨_, rfl, ?_⟩
                have n0_ := Aside0.mk (Kd.R_below (by (with_reducible repeat (first | apply Kd.R_alloc | apply Kd.R_drewN | apply Kd.R_drew)); exact HO272.out) hb)
                have n1_ := Aside0.mk (Kd.R_below (by (with_reducible repeat (first | apply Kd.R_alloc | apply Kd.R_drewN | apply Kd.R_drew)); exact HO281.out) hb)
                have n2_ := Aside0.mk (blk_below (g := gb265) (o := .cells #[.int .i64 a0_0, .int .i64 a0_1, .slice A0_2 l0_2.length c0_2, .int .i64 a0_3, .int .i64 a0_4] 24 (0, 0)) (by (with_reducible repeat (first | refine blk_drewN ?_ _ | refine blk_drew ?_ | refine blk_alloc ?_ _)); exact BK265.out) hb)
                have n3_ := Aside0.mk (blk_below (g := gb266) (o := .cells #[.int .i64 a1_0, .int .i64 a1_1, .int .i64 a1_2, .int .i64 a1_3] 26 (0, 0)) (by (with_reducible repeat (first | refine blk_drewN ?_ _ | refine blk_drew ?_ | refine blk_alloc ?_ _)); exact BK266.out) hb)
                have n4_ := Aside0.mk (blk_below (g := gb276) (o := .cells #[.int .i64 t268, .int .i64 t269, .slice Ao35 t270.length co35, .int .i64 t273, .int .i64 t274] 24 (0, 0)) (by (with_reducible repeat (first | refine blk_drewN ?_ _ | refine blk_drew ?_ | refine blk_alloc ?_ _)); exact BK276.out) hb)
                have n5_ := Aside0.mk (blk_below (g := gb285) (o := .cells #[.int .i64 t277, .int .i64 t278, .slice Ao43 t279.length co43, .int .i64 t282, .int .i64 t283] 24 (0, 0)) (by (with_reducible repeat (first | refine blk_drewN ?_ _ | refine blk_drew ?_ | refine blk_alloc ?_ _)); exact BK285.out) hb)
                have n6_ := Aside0.mk (blk_below (g := gb291) (o := .cells #[.int .i64 t286, .int .i64 t287, .int .i64 t288, .int .i64 t289] 26 (0, 0)) (by (with_reducible repeat (first | refine blk_drewN ?_ _ | refine blk_drew ?_ | refine blk_alloc ?_ _)); exact BK291.out) hb)
                have n7_ := Aside0.mk (blk_below (g := gb297) (o := .cells #[.int .i64 t292, .int .i64 t293, .int .i64 t294, .int .i64 t295] 26 (0, 0)) (by (with_reducible repeat (first | refine blk_drewN ?_ _ | refine blk_drew ?_ | refine blk_alloc ?_ _)); exact BK297.out) hb)
                have n8_ := tB HB hb
                clear HO272
                clear HO281
                clear BK265
                clear BK266
                clear BK276
                clear BK285
                clear BK291
                clear BK297
                clear HB
                have HO272 := n0_
                have HO281 := n1_
                have BK265 := n2_
                have BK266 := n3_
                have BK276 := n4_
                have BK285 := n5_
                have BK291 := n6_
                have BK297 := n7_
                have HB := n8_
                clear n0_ n1_ n2_ n3_ n4_ n5_ n6_ n7_ n8_
                (try clear hb)
                (try clear hb2)
                (try clear hk)
                (try clear hi)
                refine hK.out _ _ ⟨(blk_cell BK276.out 0).trans rfl, (blk_cell BK276.out 1).trans rfl, (blk_cell BK276.out 2).trans rfl, (blk_cell BK276.out 3).trans rfl, (blk_cell BK276.out 4).trans rfl, (blk_cell BK285.out 0).trans rfl, (blk_cell BK285.out 1).trans rfl, (blk_cell BK285.out 2).trans rfl, (blk_cell BK285.out 3).trans rfl, (blk_cell BK285.out 4).trans rfl, (blk_cell BK291.out 0).trans rfl, (blk_cell BK291.out 1).trans rfl, (blk_cell BK291.out 2).trans rfl, (blk_cell BK291.out 3).trans rfl, (blk_cell BK297.out 0).trans rfl, (blk_cell BK297.out 1).trans rfl, (blk_cell BK297.out 2).trans rfl, (blk_cell BK297.out 3).trans rfl, (blk_cell BK265.out 0).trans rfl, (blk_cell BK265.out 1).trans rfl, (blk_cell BK265.out 2).trans rfl, (blk_cell BK265.out 3).trans rfl, (blk_cell BK265.out 4).trans rfl, (blk_cell BK266.out 0).trans rfl, (blk_cell BK266.out 1).trans rfl, (blk_cell BK266.out 2).trans rfl, (blk_cell BK266.out 3).trans rfl⟩ (fun hHeld => ?_)
                clear hK K
                refine norm_ (a' := ?_) ?_ ?_
                rotate_left
                · show Act.put _ (some 81) _ = _
                  simp only [Act.put, List.setIfInBounds_toArray, List.set_cons_zero, List.set_cons_succ, i64_w, i32_w]
                  rfl
                refine one_ (i := 25) (N := some 83) #[true, true, true, true, true, true, true, true, true, true, true, true, true, true, true, true, true, true, true, true, true, true, true, true, true, true, false, false, false, false, false, false, false, false, false, false] rfl rfl (one_of HT_.out (by kernel_rfl)) (by decide) (fun K hK => ?_)
                refine goes_ Try.func19 (by kernel_rfl) rfl #[.agg #[.int .i64 a0_0, .int .i64 a0_1, .slice A0_2 l0_2.length c0_2, .int .i64 a0_3, .int .i64 a0_4]] (by rfl) rfl rfl (by (try simp only [List.map_toArray, List.map_cons, List.map_nil]); first | done | rfl | (simp only [List.length_drop, List.length_take]; rfl)) ?_
                with_reducible refine (standbyref32_CheckSource.calls k a0_0 a0_1 _ _ l0_2 a0_3 a0_4 t301 _ ?side1 ?side2 A22.out).mono ?_
                (case side1 => repeat (first | exact (Kd.C_below HR0_2.out HB.out) | (with_reducible refine Kd.C_alloc ?_ _) | (with_reducible refine Kd.C_drewN ?_ _) | (with_reducible refine Kd.C_drew ?_)))
                (case side2 => exact HC0_2.out)
                rintro e w66 ⟨rfl, hb⟩
                refine ⟨_, rfl, ?_⟩
                have n0_ := Aside0.mk (Kd.R_below (by (with_reducible repeat (first | apply Kd.R_alloc | apply Kd.R_drewN | apply Kd.R_drew)); exact HO272.out) hb)
                have n1_ := Aside0.mk (Kd.R_below (by (with_reducible repeat (first | apply Kd.R_alloc | apply Kd.R_drewN | apply Kd.R_drew)); exact HO281.out) hb)
                have n2_ := Aside0.mk (blk_below (g := gb265) (o := .cells #[.int .i64 a0_0, .int .i64 a0_1, .slice A0_2 l0_2.length c0_2, .int .i64 a0_3, .int .i64 a0_4] 24 (0, 0)) (by (with_reducible repeat (first | refine blk_drewN ?_ _ | refine blk_drew ?_ | refine blk_alloc ?_ _)); exact BK265.out) hb)
                have n3_ := Aside0.mk (blk_below (g := gb266) (o := .cells #[.int .i64 a1_0, .int .i64 a1_1, .int .i64 a1_2, .int .i64 a1_3] 26 (0, 0)) (by (with_reducible repeat (first | refine blk_drewN ?_ _ | refine blk_drew ?_ | refine blk_alloc ?_ _)); exact BK266.out) hb)
                have n4_ := Aside0.mk (blk_below (g := gb276) (o := .cells #[.int .i64 t268, .int .i64 t269, .slice Ao35 t270.length co35, .int .i64 t273, .int .i64 t274] 24 (0, 0)) (by (with_reducible repeat (first | refine blk_drewN ?_ _ | refine blk_drew ?_ | refine blk_alloc ?_ _)); exact BK276.out) hb)
                have n5_ := Aside0.mk (blk_below (g := gb285) (o := .cells #[.int .i64 t277, .int .i64 t278, .slice Ao43 t279.length co43, .int .i64 t282, .int .i64 t283] 24 (0, 0)) (by (with_reducible repeat (first | refine blk_drewN ?_ _ | refine blk_drew ?_ | refine blk_alloc ?_ _)); exact BK285.out) hb)
                have n6_ := Aside0.mk (blk_below (g := gb291) (o := .cells #[.int .i64 t286, .int .i64 t287, .int .i64 t288, .int .i64 t289] 26 (0, 0)) (by (with_reducible repeat (first | refine blk_drewN ?_ _ | refine blk_drew ?_ | refine blk_alloc ?_ _)); exact BK291.out) hb)
                have n7_ := Aside0.mk (blk_below (g := gb297) (o := .cells #[.int .i64 t292, .int .i64 t293, .int .i64 t294, .int .i64 t295] 26 (0, 0)) (by (with_reducible repeat (first | refine blk_drewN ?_ _ | refine blk_drew ?_ | refine blk_alloc ?_ _)); exact BK297.out) hb)
                have n8_ := tB HB hb
                clear HO272
                clear HO281
                clear BK265
                clear BK266
                clear BK276
                clear BK285
                clear BK291
                clear BK297
                clear HB
                have HO272 := n0_
                have HO281 := n1_
                have BK265 := n2_
                have BK266 := n3_
                have BK276 := n4_
                have BK285 := n5_
                have BK291 := n6_
                have BK297 := n7_
                have HB := n8_
                clear n0_ n1_ n2_ n3_ n4_ n5_ n6_ n7_ n8_
                (try clear hb)
                (try clear hb2)
                (try clear hk)
                (try clear hi)
                refine hK.out _ _ ⟨(blk_cell BK276.out 0).trans rfl, (blk_cell BK276.out 1).trans rfl, (blk_cell BK276.out 2).trans rfl, (blk_cell BK276.out 3).trans rfl, (blk_cell BK276.out 4).trans rfl, (blk_cell BK285.out 0).trans rfl, (blk_cell BK285.out 1).trans rfl, (blk_cell BK285.out 2).trans rfl, (blk_cell BK285.out 3).trans rfl, (blk_cell BK285.out 4).trans rfl, (blk_cell BK291.out 0).trans rfl, (blk_cell BK291.out 1).trans rfl, (blk_cell BK291.out 2).trans rfl, (blk_cell BK291.out 3).trans rfl, (blk_cell BK297.out 0).trans rfl, (blk_cell BK297.out 1).trans rfl, (blk_cell BK297.out 2).trans rfl, (blk_cell BK297.out 3).trans rfl, (blk_cell BK265.out 0).trans rfl, (blk_cell BK265.out 1).trans rfl, (blk_cell BK265.out 2).trans rfl, (blk_cell BK265.out 3).trans rfl, (blk_cell BK265.out 4).trans rfl, (blk_cell BK266.out 0).trans rfl, (blk_cell BK266.out 1).trans rfl, (blk_cell BK266.out 2).trans rfl, (blk_cell BK266.out 3).trans rfl⟩ (fun hHeld => ?_)
                clear hK K
                refine norm_ (a' := ?_) ?_ ?_
                rotate_left
                · show Act.put _ (some 83) _ = _
                  simp only [Act.put, List.setIfInBounds_toArray, List.set_cons_zero, List.set_cons_succ, i64_w, i32_w]
                  rfl
                refine pure_ (i := 26) (N := some 84) (v := ?_) (a' := ?_) #[true, true, true, true, true, true, true, true, true, true, true, true, true, true, true, true, true, true, true, true, true, true, true, true, true, true, true, false, false, false, false, false, false, false, false, false] rfl rfl (any_of HT_.out (by kernel_rfl)) (fun _ _ _ h => h) (Or.inl ⟨by rfl, ?_⟩) ?_ ?_
                rotate_left
                · intro w'
                  go_simp
                  with_reducible rfl
                rotate_left
                · simp only [Act.put, List.setIfInBounds_toArray, List.set_cons_zero, List.set_cons_succ, i64_w, i32_w]
                  rfl
                refine pure_ (i := 27) (N := some 85) (v := ?_) (a' := ?_) #[true, true, true, true, true, true, true, true, true, true, true, true, true, true, true, true, true, true, true, true, true, true, true, true, true, true, true, true, false, false, false, false, false, false, false, false] rfl rfl (any_of HT_.out (by kernel_rfl)) (fun _ _ _ h => h) (Or.inl ⟨by rfl, ?_⟩) ?_ ?_
                rotate_left
                · intro w'
                  go_simp
                  with_reducible rfl
                rotate_left
                · simp only [Act.put, List.setIfInBounds_toArray, List.set_cons_zero, List.set_cons_succ, i64_w, i32_w]
                  rfl
                refine pure_ (i := 28) (N := some 86) (v := ?_) (a' := ?_) #[true, true, true, true, true, true, true, true, true, true, true, true, true, true, true, true, true, true, true, true, true, true, true, true, true, true, true, true, true, false, false, false, false, false, false, false] rfl rfl (any_of HT_.out (by kernel_rfl)) (fun _ _ _ h => h) (Or.inl ⟨by rfl, ?_⟩) ?_ ?_
                rotate_left
                · intro w'
                  go_simp
                  with_reducible rfl
                rotate_left
                · simp only [Act.put, List.setIfInBounds_toArray, List.set_cons_zero, List.set_cons_succ, i64_w, i32_w]
                  rfl
                refine take_ (i := 29) (N := some 87) (v := ?_) (a' := ?_) #[true, true, true, true, true, true, true, true, true, true, true, true, true, true, true, true, true, true, true, true, true, true, true, true, true, true, true, true, true, true, false, false, false, false, false, false] rfl rfl (take_ofW HT_.out HW_.out (by kernel_rfl)) (fun _ _ _ h => h) (Or.inl ⟨by rfl, ?_⟩) hHeld ?_ ?_
                rotate_left
                · rintro w' ⟨s0, s1, s2, s3, s4, s5, s6, s7, s8, s9, s10, s11, s12, s13, s14, s15, s16, s17, s18, s19, s20, s21, s22, s23, s24, s25, s26⟩
                  go_simp
                  with_reducible rfl
                rotate_left
                · simp only [Act.put, List.setIfInBounds_toArray, List.set_cons_zero, List.set_cons_succ, i64_w, i32_w]
                  rfl
                refine take_ (i := 31) (N := some 89) (v := ?_) (a' := ?_) #[true, true, true, true, true, true, true, true, true, true, true, true, true, true, true, true, true, true, true, true, true, true, true, true, true, true, true, true, true, true, false, true, false, false, false, false] rfl rfl (take_ofW HT_.out HW_.out (by kernel_rfl)) (fun _ _ _ h => h) (Or.inl ⟨by rfl, ?_⟩) hHeld ?_ ?_
                rotate_left
                · rintro w' ⟨s0, s1, s2, s3, s4, s5, s6, s7, s8, s9, s10, s11, s12, s13, s14, s15, s16, s17, s18, s19, s20, s21, s22, s23, s24, s25, s26⟩
                  go_simp
                  with_reducible rfl
                rotate_left
                · simp only [Act.put, List.setIfInBounds_toArray, List.set_cons_zero, List.set_cons_succ, i64_w, i32_w]
                  rfl
                refine one_ (i := 30) (N := some 88) #[true, true, true, true, true, true, true, true, true, true, true, true, true, true, true, true, true, true, true, true, true, true, true, true, true, true, true, true, true, true, true, true, false, false, false, false] rfl rfl (one_of HT_.out (by kernel_rfl)) (by decide) (fun K hK => ?_)
                refine goes_ Try.func20 (by kernel_rfl) rfl #[.agg #[.int .i64 a1_0, .int .i64 a1_1, .int .i64 a1_2, .int .i64 a1_3]] (by rfl) rfl rfl (by (try simp only [List.map_toArray, List.map_cons, List.map_nil]); first | done | rfl | (simp only [List.length_drop, List.length_take]; rfl)) ?_
                with_reducible refine (commit_CheckTarget.calls k a1_0 a1_1 a1_2 a1_3 t302 _ A24.out).mono ?_
                rintro e w67 ⟨rfl, hb⟩
                refine ⟨_, rfl, ?_⟩
                have n0_ := Aside0.mk (Kd.R_below (by (with_reducible repeat (first | apply Kd.R_alloc | apply Kd.R_drewN | apply Kd.R_drew)); exact HO272.out) hb)
                have n1_ := Aside0.mk (Kd.R_below (by (with_reducible repeat (first | apply Kd.R_alloc | apply Kd.R_drewN | apply Kd.R_drew)); exact HO281.out) hb)
                have n2_ := Aside0.mk (blk_below (g := gb265) (o := .cells #[.int .i64 a0_0, .int .i64 a0_1, .slice A0_2 l0_2.length c0_2, .int .i64 a0_3, .int .i64 a0_4] 24 (0, 0)) (by (with_reducible repeat (first | refine blk_drewN ?_ _ | refine blk_drew ?_ | refine blk_alloc ?_ _)); exact BK265.out) hb)
                have n3_ := Aside0.mk (blk_below (g := gb266) (o := .cells #[.int .i64 a1_0, .int .i64 a1_1, .int .i64 a1_2, .int .i64 a1_3] 26 (0, 0)) (by (with_reducible repeat (first | refine blk_drewN ?_ _ | refine blk_drew ?_ | refine blk_alloc ?_ _)); exact BK266.out) hb)
                have n4_ := Aside0.mk (blk_below (g := gb276) (o := .cells #[.int .i64 t268, .int .i64 t269, .slice Ao35 t270.length co35, .int .i64 t273, .int .i64 t274] 24 (0, 0)) (by (with_reducible repeat (first | refine blk_drewN ?_ _ | refine blk_drew ?_ | refine blk_alloc ?_ _)); exact BK276.out) hb)
                have n5_ := Aside0.mk (blk_below (g := gb285) (o := .cells #[.int .i64 t277, .int .i64 t278, .slice Ao43 t279.length co43, .int .i64 t282, .int .i64 t283] 24 (0, 0)) (by (with_reducible repeat (first | refine blk_drewN ?_ _ | refine blk_drew ?_ | refine blk_alloc ?_ _)); exact BK285.out) hb)
                have n6_ := Aside0.mk (blk_below (g := gb291) (o := .cells #[.int .i64 t286, .int .i64 t287, .int .i64 t288, .int .i64 t289] 26 (0, 0)) (by (with_reducible repeat (first | refine blk_drewN ?_ _ | refine blk_drew ?_ | refine blk_alloc ?_ _)); exact BK291.out) hb)
                have n7_ := Aside0.mk (blk_below (g := gb297) (o := .cells #[.int .i64 t292, .int .i64 t293, .int .i64 t294, .int .i64 t295] 26 (0, 0)) (by (with_reducible repeat (first | refine blk_drewN ?_ _ | refine blk_drew ?_ | refine blk_alloc ?_ _)); exact BK297.out) hb)
                have n8_ := tB HB hb
                clear HO272
                clear HO281
                clear BK265
                clear BK266
                clear BK276
                clear BK285
                clear BK291
                clear BK297
                clear HB
                have HO272 := n0_
                have HO281 := n1_
                have BK265 := n2_
                have BK266 := n3_
                have BK276 := n4_
                have BK285 := n5_
                have BK291 := n6_
                have BK297 := n7_
                have HB := n8_
                clear n0_ n1_ n2_ n3_ n4_ n5_ n6_ n7_ n8_
                (try clear hb)
                (try clear hb2)
                (try clear hk)
                (try clear hi)
                refine hK.out _ _ ⟨(blk_cell BK276.out 0).trans rfl, (blk_cell BK276.out 1).trans rfl, (blk_cell BK276.out 2).trans rfl, (blk_cell BK276.out 3).trans rfl, (blk_cell BK276.out 4).trans rfl, (blk_cell BK285.out 0).trans rfl, (blk_cell BK285.out 1).trans rfl, (blk_cell BK285.out 2).trans rfl, (blk_cell BK285.out 3).trans rfl, (blk_cell BK285.out 4).trans rfl, (blk_cell BK291.out 0).trans rfl, (blk_cell BK291.out 1).trans rfl, (blk_cell BK291.out 2).trans rfl, (blk_cell BK291.out 3).trans rfl, (blk_cell BK297.out 0).trans rfl, (blk_cell BK297.out 1).trans rfl, (blk_cell BK297.out 2).trans rfl, (blk_cell BK297.out 3).trans rfl, (blk_cell BK265.out 0).trans rfl, (blk_cell BK265.out 1).trans rfl, (blk_cell BK265.out 2).trans rfl, (blk_cell BK265.out 3).trans rfl, (blk_cell BK265.out 4).trans rfl, (blk_cell BK266.out 0).trans rfl, (blk_cell BK266.out 1).trans rfl, (blk_cell BK266.out 2).trans rfl, (blk_cell BK266.out 3).trans rfl⟩ (fun hHeld => ?_)
                clear hK K
                refine norm_ (a' := ?_) ?_ ?_
                rotate_left
                · show Act.put _ (some 88) _ = _
                  simp only [Act.put, List.setIfInBounds_toArray, List.set_cons_zero, List.set_cons_succ, i64_w, i32_w]
                  rfl
                refine one_ (i := 32) (N := some 90) #[true, true, true, true, true, true, true, true, true, true, true, true, true, true, true, true, true, true, true, true, true, true, true, true, true, true, true, true, true, true, true, true, true, false, false, false] rfl rfl (one_of HT_.out (by kernel_rfl)) (by decide) (fun K hK => ?_)
                refine goes_ Try.func21 (by kernel_rfl) rfl #[.agg #[.int .i64 a1_0, .int .i64 a1_1, .int .i64 a1_2, .int .i64 a1_3]] (by rfl) rfl rfl (by (try simp only [List.map_toArray, List.map_cons, List.map_nil]); first | done | rfl | (simp only [List.length_drop, List.length_take]; rfl)) ?_
                with_reducible refine (standbyref32_CheckTarget.calls k a1_0 a1_1 a1_2 a1_3 t303 _ A25.out).mono ?_
                rintro e w68 ⟨rfl, hb⟩
                refine ⟨_, rfl, ?_⟩
                have n0_ := Aside0.mk (Kd.R_below (by (with_reducible repeat (first | apply Kd.R_alloc | apply Kd.R_drewN | apply Kd.R_drew)); exact HO272.out) hb)
                have n1_ := Aside0.mk (Kd.R_below (by (with_reducible repeat (first | apply Kd.R_alloc | apply Kd.R_drewN | apply Kd.R_drew)); exact HO281.out) hb)
                have n2_ := Aside0.mk (blk_below (g := gb265) (o := .cells #[.int .i64 a0_0, .int .i64 a0_1, .slice A0_2 l0_2.length c0_2, .int .i64 a0_3, .int .i64 a0_4] 24 (0, 0)) (by (with_reducible repeat (first | refine blk_drewN ?_ _ | refine blk_drew ?_ | refine blk_alloc ?_ _)); exact BK265.out) hb)
                have n3_ := Aside0.mk (blk_below (g := gb266) (o := .cells #[.int .i64 a1_0, .int .i64 a1_1, .int .i64 a1_2, .int .i64 a1_3] 26 (0, 0)) (by (with_reducible repeat (first | refine blk_drewN ?_ _ | refine blk_drew ?_ | refine blk_alloc ?_ _)); exact BK266.out) hb)
                have n4_ := Aside0.mk (blk_below (g := gb276) (o := .cells #[.int .i64 t268, .int .i64 t269, .slice Ao35 t270.length co35, .int .i64 t273, .int .i64 t274] 24 (0, 0)) (by (with_reducible repeat (first | refine blk_drewN ?_ _ | refine blk_drew ?_ | refine blk_alloc ?_ _)); exact BK276.out) hb)
                have n5_ := Aside0.mk (blk_below (g := gb285) (o := .cells #[.int .i64 t277, .int .i64 t278, .slice Ao43 t279.length co43, .int .i64 t282, .int .i64 t283] 24 (0, 0)) (by (with_reducible repeat (first | refine blk_drewN ?_ _ | refine blk_drew ?_ | refine blk_alloc ?_ _)); exact BK285.out) hb)
                have n6_ := Aside0.mk (blk_below (g := gb291) (o := .cells #[.int .i64 t286, .int .i64 t287, .int .i64 t288, .int .i64 t289] 26 (0, 0)) (by (with_reducible repeat (first | refine blk_drewN ?_ _ | refine blk_drew ?_ | refine blk_alloc ?_ _)); exact BK291.out) hb)
                have n7_ := Aside0.mk (blk_below (g := gb297) (o := .cells #[.int .i64 t292, .int .i64 t293, .int .i64 t294, .int .i64 t295] 26 (0, 0)) (by (with_reducible repeat (first | refine blk_drewN ?_ _ | refine blk_drew ?_ | refine blk_alloc ?_ _)); exact BK297.out) hb)
                have n8_ := tB HB hb
                clear HO272
                clear HO281
                clear BK265
                clear BK266
                clear BK276
                clear BK285
                clear BK291
                clear BK297
                clear HB
                have HO272 := n0_
                have HO281 := n1_
                have BK265 := n2_
                have BK266 := n3_
                have BK276 := n4_
                have BK285 := n5_
                have BK291 := n6_
                have BK297 := n7_
                have HB := n8_
                clear n0_ n1_ n2_ n3_ n4_ n5_ n6_ n7_ n8_
                (try clear hb)
                (try clear hb2)
                (try clear hk)
                (try clear hi)
                refine hK.out _ _ ⟨(blk_cell BK276.out 0).trans rfl, (blk_cell BK276.out 1).trans rfl, (blk_cell BK276.out 2).trans rfl, (blk_cell BK276.out 3).trans rfl, (blk_cell BK276.out 4).trans rfl, (blk_cell BK285.out 0).trans rfl, (blk_cell BK285.out 1).trans rfl, (blk_cell BK285.out 2).trans rfl, (blk_cell BK285.out 3).trans rfl, (blk_cell BK285.out 4).trans rfl, (blk_cell BK291.out 0).trans rfl, (blk_cell BK291.out 1).trans rfl, (blk_cell BK291.out 2).trans rfl, (blk_cell BK291.out 3).trans rfl, (blk_cell BK297.out 0).trans rfl, (blk_cell BK297.out 1).trans rfl, (blk_cell BK297.out 2).trans rfl, (blk_cell BK297.out 3).trans rfl, (blk_cell BK265.out 0).trans rfl, (blk_cell BK265.out 1).trans rfl, (blk_cell BK265.out 2).trans rfl, (blk_cell BK265.out 3).trans rfl, (blk_cell BK265.out 4).trans rfl, (blk_cell BK266.out 0).trans rfl, (blk_cell BK266.out 1).trans rfl, (blk_cell BK266.out 2).trans rfl, (blk_cell BK266.out 3).trans rfl⟩ (fun hHeld => ?_)
                clear hK K
                refine norm_ (a' := ?_) ?_ ?_
                rotate_left
                · show Act.put _ (some 90) _ = _
                  simp only [Act.put, List.setIfInBounds_toArray, List.set_cons_zero, List.set_cons_succ, i64_w, i32_w]
                  rfl
                refine pure_ (i := 33) (N := some 91) (v := ?_) (a' := ?_) #[true, true, true, true, true, true, true, true, true, true, true, true, true, true, true, true, true, true, true, true, true, true, true, true, true, true, true, true, true, true, true, true, true, true, false, false] rfl rfl (any_of HT_.out (by kernel_rfl)) (fun _ _ _ h => h) (Or.inl ⟨by rfl, ?_⟩) ?_ ?_
                rotate_left
                · intro w'
                  go_simp
                  with_reducible rfl
                rotate_left
                · simp only [Act.put, List.setIfInBounds_toArray, List.set_cons_zero, List.set_cons_succ, i64_w, i32_w]
                  rfl
                refine pure_ (i := 34) (N := some 92) (v := ?_) (a' := ?_) #[true, true, true, true, true, true, true, true, true, true, true, true, true, true, true, true, true, true, true, true, true, true, true, true, true, true, true, true, true, true, true, true, true, true, true, false] rfl rfl (any_of HT_.out (by kernel_rfl)) (fun _ _ _ h => h) (Or.inl ⟨by rfl, ?_⟩) ?_ ?_
                rotate_left
                · intro w'
                  go_simp
                  with_reducible rfl
                rotate_left
                · simp only [Act.put, List.setIfInBounds_toArray, List.set_cons_zero, List.set_cons_succ, i64_w, i32_w]
                  rfl
                refine pure_ (i := 35) (N := some 4) (v := ?_) (a' := ?_) #[true, true, true, true, true, true, true, true, true, true, true, true, true, true, true, true, true, true, true, true, true, true, true, true, true, true, true, true, true, true, true, true, true, true, true, true] rfl rfl (any_of HT_.out (by kernel_rfl)) (fun _ _ _ h => h) (Or.inl ⟨by rfl, ?_⟩) ?_ ?_
                rotate_left
                · intro w'
                  go_simp
                  with_reducible rfl
                rotate_left
                · simp only [Act.put, List.setIfInBounds_toArray, List.set_cons_zero, List.set_cons_succ, i64_w, i32_w]
                  rfl
                refine done_ (done_of HT_.out (by kernel_rfl)) ?_
                try go_wp2
                go_ret
                exact ⟨by first | rfl | (simp [errW_none, errW_some] <;> rfl) | (simp [*, errW_none, errW_some] <;> rfl), (kB HB.out)⟩
              · rw [if_neg c23] at H
                exact absurd H (by simp)
            · rw [if_neg c20] at H
              exact absurd H (by simp)
          · rw [if_neg c19] at H
            exact absurd H (by simp)
        · rw [if_neg c18] at H
          exact absurd H (by simp)
      · replace c17 := Bool.eq_false_iff.mpr c17
        subst c17
        have H1 : (none) = some r := by rw [if_neg (show ¬ (false = true) by decide)] at H; exact H
        clear H
        have H := H1
        clear H1
        exact absurd H (by simp)
    · replace c15 := Bool.eq_false_iff.mpr c15
      subst c15
      have H1 : (none) = some r := by rw [if_neg (show ¬ (false = true) by decide)] at H; exact H
      clear H
      have H := H1
      clear H1
      exact absurd H (by simp)
end Go.Proofs.Ytedoloapddmanaa.PB
