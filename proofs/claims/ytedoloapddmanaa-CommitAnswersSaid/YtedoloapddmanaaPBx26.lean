-- Written by a program of this session (wip/tools) over the kit's print.
import Derived.Test.YtedoloapddmanaaPBx0
import Derived.Test.YtedoloapddmanaaSh
import Derived.Test.YtedoloapddmanaaPBx12
import Derived.Test.YtedoloapddmanaaPBx14
import Derived.Test.YtedoloapddmanaaPBx23
namespace Go.Proofs.Ytedoloapddmanaa.PB
open Go.RowKit Go.Proofs.YtedoloapddmanaaW.PrintWords Go.Proofs.YtedoloapddmanaaW.PrintLast Go.Proofs.YtedoloapddmanaaW.PrintMore
attribute [local go_sem] max2_int min2_int max_two min_two max_three min_three max_four min_four   -- for this text's walks alone
set_option linter.unusedVariables false
set_option linter.unusedSimpArgs false
mutual
def standbyref32_Answer.j0 : Nat → Bool → Int → Int → Int → Int → Int → Int → Int → Int → Int → Int → Option (Int × Int × Int × Int × (List (S53)))
  | 0, _, _, _, _, _, _, _, _, _, _, _ => none
  | k + 1, x31, x523000, x523001, x523002, x523003, x524000, x524001, x524002, x524003, x524004, x524005 => if x31 = true then (some (x523000, x523001, x523002, x523003, ([] : List (S53)))) else (if x524005 < x523000 then ((standbyref32_toSource.f x523000 x523001 x523002 x523003 12 0).bind fun t528 => (some (x523000, x523001, x523002, x523003, t528))) else (if x524005 > x523000 then (standbyref32_Answer.j1 k x524005 x523001 x523003 x523003 x524000 x524001 x524002 x524003 x524004 x524005) else (standbyref32_Answer.j1 k x523000 x523001 x523002 x523003 x524000 x524001 x524002 x524003 x524004 x524005)))
def standbyref32_Answer.j1 : Nat → Int → Int → Int → Int → Int → Int → Int → Int → Int → Int → Option (Int × Int × Int × Int × (List (S53)))
  | 0, _, _, _, _, _, _, _, _, _, _ => none
  | k + 1, x523000, x523001, x523002, x523003, x524000, x524001, x524002, x524003, x524004, x524005 => if x524000 = 8 then ((standbyref32_toSource.f x523000 x523001 x523002 x523003 9 x523002).bind fun t531 => (some (x523000, x523001, x523002, x523003, t531))) else ((standbyref32_toSource.f x523000 x523001 x523002 x523003 11 x523003).bind fun t534 => (some (x523000, x523001, x523002, x523003, t534)))
end
def standbyref32_Answer.f (k : Nat) (a0_0 : Int) (a0_1 : Int) (a0_2 : Int) (a0_3 : Int) (a1_0 : Int) (a1_1 : Int) (a1_2 : Int) (a1_3 : Int) (a1_4 : Int) (a1_5 : Int) (a1_6 : Unit) (a1_7 : Unit) : Option (Int × Int × Int × Int × (List (S53))) := (standbyref32_CheckTarget.f k a0_0 a0_1 a0_2 a0_3).bind fun t525 => (if t525 = 0 then (if a1_2 = a0_1 then (if a1_0 = 8 then ((standbyref32_time.f a1_5).bind fun t526 => (standbyref32_Answer.j0 k (!t526) a0_0 a0_1 a0_2 a0_3 a1_0 a1_1 a1_2 a1_3 a1_4 a1_5)) else (if a1_0 = 10 then ((standbyref32_time.f a1_5).bind fun t527 => (standbyref32_Answer.j0 k (!t527) a0_0 a0_1 a0_2 a0_3 a1_0 a1_1 a1_2 a1_3 a1_4 a1_5)) else (standbyref32_Answer.j0 k true a0_0 a0_1 a0_2 a0_3 a1_0 a1_1 a1_2 a1_3 a1_4 a1_5))) else (standbyref32_Answer.j0 k true a0_0 a0_1 a0_2 a0_3 a1_0 a1_1 a1_2 a1_3 a1_4 a1_5)) else (standbyref32_Answer.j0 k true a0_0 a0_1 a0_2 a0_3 a1_0 a1_1 a1_2 a1_3 a1_4 a1_5))
theorem standbyref32_Answer.mono_l : ∀ k, (∀ y0 y1 y2 y3 y4 y5 y6 y7 y8 y9 y10, LeO (standbyref32_Answer.j0 k y0 y1 y2 y3 y4 y5 y6 y7 y8 y9 y10) (standbyref32_Answer.j0 (k + 1) y0 y1 y2 y3 y4 y5 y6 y7 y8 y9 y10)) ∧ (∀ y0 y1 y2 y3 y4 y5 y6 y7 y8 y9, LeO (standbyref32_Answer.j1 k y0 y1 y2 y3 y4 y5 y6 y7 y8 y9) (standbyref32_Answer.j1 (k + 1) y0 y1 y2 y3 y4 y5 y6 y7 y8 y9))
  | 0 => ⟨fun _ _ _ _ _ _ _ _ _ _ _ r h => by simp [standbyref32_Answer.j0] at h, fun _ _ _ _ _ _ _ _ _ _ r h => by simp [standbyref32_Answer.j1] at h⟩
  | k + 1 => by
    obtain ⟨ih0, ih1⟩ := standbyref32_Answer.mono_l k
    refine ⟨?_, ?_⟩
    · intro y0 y1 y2 y3 y4 y5 y6 y7 y8 y9 y10
      unfold standbyref32_Answer.j0
      repeat' first
      | (with_reducible exact ih0 _ _ _ _ _ _ _ _ _ _ _)
      | (with_reducible exact ih1 _ _ _ _ _ _ _ _ _ _)
      | (with_reducible exact standbyref32_CheckTarget.mono _ _ _ _ _)
      | (with_reducible exact LeO.refl _)
      | (with_reducible exact LeO.none _)
      | (with_reducible refine LeO.ite ?_ ?_)
      | (with_reducible refine LeO.bind ?_ (fun _ => ?_))
      | exact ih0 _ _ _ _ _ _ _ _ _ _ _
      | exact ih1 _ _ _ _ _ _ _ _ _ _
      | exact standbyref32_CheckTarget.mono _ _ _ _ _
      | exact LeO.none _
      | refine LeO.ite ?_ ?_
      | refine LeO.bind ?_ (fun _ => ?_)
    · intro y0 y1 y2 y3 y4 y5 y6 y7 y8 y9
      unfold standbyref32_Answer.j1
      repeat' first
      | (with_reducible exact ih0 _ _ _ _ _ _ _ _ _ _ _)
      | (with_reducible exact ih1 _ _ _ _ _ _ _ _ _ _)
      | (with_reducible exact standbyref32_CheckTarget.mono _ _ _ _ _)
      | (with_reducible exact LeO.refl _)
      | (with_reducible exact LeO.none _)
      | (with_reducible refine LeO.ite ?_ ?_)
      | (with_reducible refine LeO.bind ?_ (fun _ => ?_))
      | exact ih0 _ _ _ _ _ _ _ _ _ _ _
      | exact ih1 _ _ _ _ _ _ _ _ _ _
      | exact standbyref32_CheckTarget.mono _ _ _ _ _
      | exact LeO.none _
      | refine LeO.ite ?_ ?_
      | refine LeO.bind ?_ (fun _ => ?_)
theorem standbyref32_Answer.mono : ∀ a0 a1 a2 a3 a4 a5 a6 a7 a8 a9 a10 a11 k, LeO (standbyref32_Answer.f k a0 a1 a2 a3 a4 a5 a6 a7 a8 a9 a10 a11) (standbyref32_Answer.f (k + 1) a0 a1 a2 a3 a4 a5 a6 a7 a8 a9 a10 a11) := by
  intro a0 a1 a2 a3 a4 a5 a6 a7 a8 a9 a10 a11 k
  obtain ⟨ih0, ih1⟩ := standbyref32_Answer.mono_l k
  unfold standbyref32_Answer.f
  repeat' first
      | (with_reducible exact ih0 _ _ _ _ _ _ _ _ _ _ _)
      | (with_reducible exact ih1 _ _ _ _ _ _ _ _ _ _)
      | (with_reducible exact standbyref32_CheckTarget.mono _ _ _ _ _)
      | (with_reducible exact LeO.refl _)
      | (with_reducible exact LeO.none _)
      | (with_reducible refine LeO.ite ?_ ?_)
      | (with_reducible refine LeO.bind ?_ (fun _ => ?_))
      | exact ih0 _ _ _ _ _ _ _ _ _ _ _
      | exact ih1 _ _ _ _ _ _ _ _ _ _
      | exact standbyref32_CheckTarget.mono _ _ _ _ _
      | exact LeO.none _
      | refine LeO.ite ?_ ?_
      | refine LeO.bind ?_ (fun _ => ?_)
set_option maxHeartbeats 8000000 in
set_option maxRecDepth 100000 in
theorem standbyref32_Answer.calls (k : Nat) (a0_0 : Int) (a0_1 : Int) (a0_2 : Int) (a0_3 : Int) (a1_0 : Int) (a1_1 : Int) (a1_2 : Int) (a1_3 : Int) (a1_4 : Int) (a1_5 : Int) (a1_6 : Unit) (q1_6 : Value) (a1_7 : Unit) (q1_7 : Value) (r1 : Int) (r2 : Int) (r3 : Int) (r4 : Int) (r5 : List (S53)) (w : World) (h : standbyref32_Answer.f k a0_0 a0_1 a0_2 a0_3 a1_0 a1_1 a1_2 a1_3 a1_4 a1_5 a1_6 a1_7 = some (r1, r2, r3, r4, r5)) :
    Calls Try.prog 36 #[.agg #[.int .i64 a0_0, .int .i64 a0_1, .int .i64 a0_2, .int .i64 a0_3], .agg #[.int .i64 a1_0, .int .i64 a1_1, .int .i64 a1_2, .int .i64 a1_3, .int .i64 a1_4, .int .i64 a1_5, q1_6, q1_7]] w fun e w' => ∃ v4_ : Value, e = .returned (.tuple #[.agg #[.int .i64 r1, .int .i64 r2, .int .i64 r3, .int .i64 r4], v4_]) ∧ Kd.R k53 53 w' w.heap.size (fun _ => True) v4_ r5 ∧ Below w.heap.size w w' := by
  have hu26 := Try.underlying26
  have hu53 := Try.underlying53
  have HB := Aside0.mk (Below.refl w.heap.size w)
  have H : ((standbyref32_CheckTarget.f k a0_0 a0_1 a0_2 a0_3).bind fun t525 => (if t525 = 0 then (if a1_2 = a0_1 then (if a1_0 = 8 then ((standbyref32_time.f a1_5).bind fun t526 => (standbyref32_Answer.j0 k (!t526) a0_0 a0_1 a0_2 a0_3 a1_0 a1_1 a1_2 a1_3 a1_4 a1_5)) else (if a1_0 = 10 then ((standbyref32_time.f a1_5).bind fun t527 => (standbyref32_Answer.j0 k (!t527) a0_0 a0_1 a0_2 a0_3 a1_0 a1_1 a1_2 a1_3 a1_4 a1_5)) else (standbyref32_Answer.j0 k true a0_0 a0_1 a0_2 a0_3 a1_0 a1_1 a1_2 a1_3 a1_4 a1_5))) else (standbyref32_Answer.j0 k true a0_0 a0_1 a0_2 a0_3 a1_0 a1_1 a1_2 a1_3 a1_4 a1_5)) else (standbyref32_Answer.j0 k true a0_0 a0_1 a0_2 a0_3 a1_0 a1_1 a1_2 a1_3 a1_4 a1_5))) = some (r1, r2, r3, r4, r5) := h
  clear h
  have HC3 := Aside0.mk H
  clear H
  go_enter Try.func36, Try.ntmps36
  go_upto_region 1 with (first | ((with_reducible refine gate_dst (N := 2) rfl ?_); refine box_event ?hg (N := 2) ?hd (cs := #[.int .i64 a0_0, .int .i64 a0_1, .int .i64 a0_2, .int .i64 a0_3]) (t := 26) ?hr ?_; (case hd => rfl); (case hg => rfl); (case hr => first | (go_simp; done) | (go_simp; rfl)); intro gb522 hg w4 hbox hb; have BK522 := Aside0.mk (hbox); have GW522 := gZ HB hg; have GE522 := gZ HB hg; replace HB := tB HB hb; clear hb hbox hg) | ((with_reducible refine gate_dst (N := 3) rfl ?_); refine box_event ?hg (N := 3) ?hd (cs := #[.int .i64 a1_0, .int .i64 a1_1, .int .i64 a1_2, .int .i64 a1_3, .int .i64 a1_4, .int .i64 a1_5, q1_6, q1_7]) (t := 53) ?hr ?_; (case hd => rfl); (case hg => rfl); (case hr => first | (go_simp; done) | (go_simp; rfl)); intro gb523 hg w5 hbox hb; have BK523 := Aside0.mk (hbox); have GW523 := gZ HB hg; have GE523 := gZ HB hg; replace HB := tB HB hb; have NB522_523 := Aside0.mk ((by rw [hg]; exact Nat.ne_of_lt (blk_lt (g := gb522) (o := .cells #[.int .i64 a0_0, .int .i64 a0_1, .int .i64 a0_2, .int .i64 a0_3] 26 (0, 0)) (by (with_reducible repeat (first | refine blk_drewN ?_ _ | refine blk_drew ?_ | refine blk_alloc ?_ _)); exact BK522.out)) : gb522 ≠ gb523)); have NB523_522 := Aside0.mk ((by rw [hg]; exact Nat.ne_of_gt (blk_lt (g := gb522) (o := .cells #[.int .i64 a0_0, .int .i64 a0_1, .int .i64 a0_2, .int .i64 a0_3] 26 (0, 0)) (by (with_reducible repeat (first | refine blk_drewN ?_ _ | refine blk_drew ?_ | refine blk_alloc ?_ _)); exact BK522.out)) : gb523 ≠ gb522)); replace BK522 := Aside0.mk (blk_below (g := gb522) (o := .cells #[.int .i64 a0_0, .int .i64 a0_1, .int .i64 a0_2, .int .i64 a0_3] 26 (0, 0)) (by (with_reducible repeat (first | refine blk_drewN ?_ _ | refine blk_drew ?_ | refine blk_alloc ?_ _)); exact BK522.out) hb); clear hb hbox hg) | ((with_reducible refine gate_dst (N := 4) rfl ?_); refine box_event ?hg (N := 4) ?hd (cs := #[.int .i64 0, .int .i64 0, .int .i64 0, .int .i64 0]) (t := 26) ?hr ?_; (case hd => rfl); (case hg => rfl); (case hr => first | (go_simp; done) | (go_simp; rfl)); intro gb524 hg w6 hbox hb; have BK524 := Aside0.mk (hbox); have GW524 := gZ HB hg; have GE524 := gZ HB hg; replace HB := tB HB hb; have NB522_524 := Aside0.mk ((by rw [hg]; exact Nat.ne_of_lt (blk_lt (g := gb522) (o := .cells #[.int .i64 a0_0, .int .i64 a0_1, .int .i64 a0_2, .int .i64 a0_3] 26 (0, 0)) (by (with_reducible repeat (first | refine blk_drewN ?_ _ | refine blk_drew ?_ | refine blk_alloc ?_ _)); exact BK522.out)) : gb522 ≠ gb524)); have NB524_522 := Aside0.mk ((by rw [hg]; exact Nat.ne_of_gt (blk_lt (g := gb522) (o := .cells #[.int .i64 a0_0, .int .i64 a0_1, .int .i64 a0_2, .int .i64 a0_3] 26 (0, 0)) (by (with_reducible repeat (first | refine blk_drewN ?_ _ | refine blk_drew ?_ | refine blk_alloc ?_ _)); exact BK522.out)) : gb524 ≠ gb522)); replace BK522 := Aside0.mk (blk_below (g := gb522) (o := .cells #[.int .i64 a0_0, .int .i64 a0_1, .int .i64 a0_2, .int .i64 a0_3] 26 (0, 0)) (by (with_reducible repeat (first | refine blk_drewN ?_ _ | refine blk_drew ?_ | refine blk_alloc ?_ _)); exact BK522.out) hb); have NB523_524 := Aside0.mk ((by rw [hg]; exact Nat.ne_of_lt (blk_lt (g := gb523) (o := .cells #[.int .i64 a1_0, .int .i64 a1_1, .int .i64 a1_2, .int .i64 a1_3, .int .i64 a1_4, .int .i64 a1_5, q1_6, q1_7] 53 (0, 0)) (by (with_reducible repeat (first | refine blk_drewN ?_ _ | refine blk_drew ?_ | refine blk_alloc ?_ _)); exact BK523.out)) : gb523 ≠ gb524)); have NB524_523 := Aside0.mk ((by rw [hg]; exact Nat.ne_of_gt (blk_lt (g := gb523) (o := .cells #[.int .i64 a1_0, .int .i64 a1_1, .int .i64 a1_2, .int .i64 a1_3, .int .i64 a1_4, .int .i64 a1_5, q1_6, q1_7] 53 (0, 0)) (by (with_reducible repeat (first | refine blk_drewN ?_ _ | refine blk_drew ?_ | refine blk_alloc ?_ _)); exact BK523.out)) : gb524 ≠ gb523)); replace BK523 := Aside0.mk (blk_below (g := gb523) (o := .cells #[.int .i64 a1_0, .int .i64 a1_1, .int .i64 a1_2, .int .i64 a1_3, .int .i64 a1_4, .int .i64 a1_5, q1_6, q1_7] 53 (0, 0)) (by (with_reducible repeat (first | refine blk_drewN ?_ _ | refine blk_drew ?_ | refine blk_alloc ?_ _)); exact BK523.out) hb); clear hb hbox hg))
  (try simp only [Act.put, List.setIfInBounds_toArray, List.set_cons_zero, List.set_cons_succ])
  go_cut [31] (fun v31 wc => ∃ (kq : Nat) (x31_2 : Bool), v31 = .bool x31_2 ∧ Aside0 (standbyref32_Answer.j0 kq x31_2 a0_0 a0_1 a0_2 a0_3 a1_0 a1_1 a1_2 a1_3 a1_4 a1_5 = some (r1, r2, r3, r4, r5)) ∧ Aside0 (kq ≤ k) ∧ Aside0 (wc.heap[gb522]? = some (.cells #[.int .i64 a0_0, .int .i64 a0_1, .int .i64 a0_2, .int .i64 a0_3] 26 (0, 0))) ∧ Aside0 (wc.heap[gb523]? = some (.cells #[.int .i64 a1_0, .int .i64 a1_1, .int .i64 a1_2, .int .i64 a1_3, .int .i64 a1_4, .int .i64 a1_5, q1_6, q1_7] 53 (0, 0))) ∧ Aside0 (wc.heap[gb524]? = some (.cells #[.int .i64 0, .int .i64 0, .int .i64 0, .int .i64 0] 26 (0, 0))) ∧ Aside0 (Below w.heap.size w wc))
  case first =>
    have H := HC3.out
    clear HC3
    replace H := Option.bind_eq_some_iff.mp H
    obtain ⟨t525, A70, H⟩ := H
    (try dsimp only at H)
    have A7 := Aside0.mk A70
    clear A70
    by_cases c8 : t525 = 0
    · rw [if_pos c8] at H
      have c8b0 : (t525 == 0) = true := beq_iff_eq.mpr c8
      have c8b1 : (t525 != 0) = false := bne_eq_false_iff_eq.mpr c8
      clear c8
      (first | rw [c8b0] | (simp only [i64_w, i32_w]; rw [c8b0]) | skip)
      by_cases c9 : a1_2 = a0_1
      · rw [if_pos c9] at H
        have c9b0 : (a1_2 == a0_1) = true := beq_iff_eq.mpr c9
        have c9b1 : (a1_2 != a0_1) = false := bne_eq_false_iff_eq.mpr c9
        clear c9
        by_cases c10 : a1_0 = 8
        · rw [if_pos c10] at H
          have c10b0 : (a1_0 == 8) = true := beq_iff_eq.mpr c10
          have c10b1 : (a1_0 != 8) = false := bne_eq_false_iff_eq.mpr c10
          clear c10
          replace H := Option.bind_eq_some_iff.mp H
          obtain ⟨t526, A110, H⟩ := H
          (try dsimp only at H)
          have A11 := Aside0.mk A110
          clear A110
          have H' := Aside0.mk H
          clear H
          have hnb12 := NB522_523.out
          have hnc12 := NB523_522.out
          have hnb13 := NB522_524.out
          have hnc13 := NB524_522.out
          obtain ⟨hcz14_0, hcz14_1, hcz14_2, hcz14_3⟩ := cz4 BK522.out
          obtain ⟨hfz14_0, hfz14_1, hfz14_2, hfz14_3⟩ := fz4 BK522.out
          go_wp2_with (first | ((with_reducible refine gate_callee (f := 21) rfl ?_); refine goesL_ (some 7) rfl rfl Try.func21 (by kernel_rfl) rfl #[.agg #[.int .i64 a0_0, .int .i64 a0_1, .int .i64 a0_2, .int .i64 a0_3]] rfl (by (try simp only [List.map_toArray, List.map_cons, List.map_nil]); first | done | rfl | (simp only [List.length_drop, List.length_take]; rfl)) ?_; (with_reducible refine (standbyref32_CheckTarget.calls k a0_0 a0_1 a0_2 a0_3 t525 _ A7.out).mono ?_); rintro e w15 ⟨rfl, hb⟩; refine ⟨_, rfl, ?_⟩; replace BK522 := Aside0.mk (blk_below (g := gb522) (o := .cells #[.int .i64 a0_0, .int .i64 a0_1, .int .i64 a0_2, .int .i64 a0_3] 26 (0, 0)) (by (with_reducible repeat (first | refine blk_drewN ?_ _ | refine blk_drew ?_ | refine blk_alloc ?_ _)); exact BK522.out) hb); replace BK523 := Aside0.mk (blk_below (g := gb523) (o := .cells #[.int .i64 a1_0, .int .i64 a1_1, .int .i64 a1_2, .int .i64 a1_3, .int .i64 a1_4, .int .i64 a1_5, q1_6, q1_7] 53 (0, 0)) (by (with_reducible repeat (first | refine blk_drewN ?_ _ | refine blk_drew ?_ | refine blk_alloc ?_ _)); exact BK523.out) hb); replace BK524 := Aside0.mk (blk_below (g := gb524) (o := .cells #[.int .i64 0, .int .i64 0, .int .i64 0, .int .i64 0] 26 (0, 0)) (by (with_reducible repeat (first | refine blk_drewN ?_ _ | refine blk_drew ?_ | refine blk_alloc ?_ _)); exact BK524.out) hb); replace HB := tB HB hb; (try clear hb); (try clear hb2); (try clear hk); (try clear hi); have hnb16 := NB523_524.out; have hnc16 := NB524_523.out; obtain ⟨hcz17_0, hcz17_1, hcz17_2, hcz17_3, hcz17_4, hcz17_5, hcz17_6, hcz17_7⟩ := cz8 BK523.out; obtain ⟨hfz17_0, hfz17_1, hfz17_2, hfz17_3, hfz17_4, hfz17_5, hfz17_6, hfz17_7⟩ := fz8 BK523.out; obtain ⟨hcz18_0, hcz18_1, hcz18_2, hcz18_3⟩ := cz4 BK522.out; obtain ⟨hfz18_0, hfz18_1, hfz18_2, hfz18_3⟩ := fz4 BK522.out) | (go_at_call 40; (with_reducible refine (standbyref32_time.calls a1_5 t526 _ A11.out).mono ?_); rintro e w' ⟨rfl, ⟨nd, rfl⟩⟩))
          go_meet
          case rel => exact ⟨_, (!t526), (by first | rfl | (simp; done) | (simp [*]; done)), H', ⟨by first | omega | exact Nat.le_refl _⟩, ⟨by (with_reducible repeat (first | refine blk_drewN ?_ _ | refine blk_drew ?_ | refine blk_alloc ?_ _)); exact BK522.out⟩, ⟨by (with_reducible repeat (first | refine blk_drewN ?_ _ | refine blk_drew ?_ | refine blk_alloc ?_ _)); exact BK523.out⟩, ⟨by (with_reducible repeat (first | refine blk_drewN ?_ _ | refine blk_drew ?_ | refine blk_alloc ?_ _)); exact BK524.out⟩, ⟨kB HB.out⟩⟩
        · rw [if_neg c10] at H
          have c10b0 : (a1_0 == 8) = false := beq_eq_false_iff_ne.mpr c10
          have c10b1 : (a1_0 != 8) = true := bne_iff_ne.mpr c10
          by_cases c19 : a1_0 = 10
          · rw [if_pos c19] at H
            have c19b0 : (a1_0 == 10) = true := beq_iff_eq.mpr c19
            have c19b1 : (a1_0 != 10) = false := bne_eq_false_iff_eq.mpr c19
            clear c19
            replace H := Option.bind_eq_some_iff.mp H
            obtain ⟨t527, A200, H⟩ := H
            (try dsimp only at H)
            have A20 := Aside0.mk A200
            clear A200
            have H' := Aside0.mk H
            clear H
            have hnb21 := NB522_523.out
            have hnc21 := NB523_522.out
            have hnb22 := NB522_524.out
            have hnc22 := NB524_522.out
            obtain ⟨hcz23_0, hcz23_1, hcz23_2, hcz23_3⟩ := cz4 BK522.out
            obtain ⟨hfz23_0, hfz23_1, hfz23_2, hfz23_3⟩ := fz4 BK522.out
            go_wp2_with (first | ((with_reducible refine gate_callee (f := 21) rfl ?_); refine goesL_ (some 7) rfl rfl Try.func21 (by kernel_rfl) rfl #[.agg #[.int .i64 a0_0, .int .i64 a0_1, .int .i64 a0_2, .int .i64 a0_3]] rfl (by (try simp only [List.map_toArray, List.map_cons, List.map_nil]); first | done | rfl | (simp only [List.length_drop, List.length_take]; rfl)) ?_; (with_reducible refine (standbyref32_CheckTarget.calls k a0_0 a0_1 a0_2 a0_3 t525 _ A7.out).mono ?_); rintro e w24 ⟨rfl, hb⟩; refine ⟨_, rfl, ?_⟩; replace BK522 := Aside0.mk (blk_below (g := gb522) (o := .cells #[.int .i64 a0_0, .int .i64 a0_1, .int .i64 a0_2, .int .i64 a0_3] 26 (0, 0)) (by (with_reducible repeat (first | refine blk_drewN ?_ _ | refine blk_drew ?_ | refine blk_alloc ?_ _)); exact BK522.out) hb); replace BK523 := Aside0.mk (blk_below (g := gb523) (o := .cells #[.int .i64 a1_0, .int .i64 a1_1, .int .i64 a1_2, .int .i64 a1_3, .int .i64 a1_4, .int .i64 a1_5, q1_6, q1_7] 53 (0, 0)) (by (with_reducible repeat (first | refine blk_drewN ?_ _ | refine blk_drew ?_ | refine blk_alloc ?_ _)); exact BK523.out) hb); replace BK524 := Aside0.mk (blk_below (g := gb524) (o := .cells #[.int .i64 0, .int .i64 0, .int .i64 0, .int .i64 0] 26 (0, 0)) (by (with_reducible repeat (first | refine blk_drewN ?_ _ | refine blk_drew ?_ | refine blk_alloc ?_ _)); exact BK524.out) hb); replace HB := tB HB hb; (try clear hb); (try clear hb2); (try clear hk); (try clear hi); have hnb25 := NB523_524.out; have hnc25 := NB524_523.out; obtain ⟨hcz26_0, hcz26_1, hcz26_2, hcz26_3, hcz26_4, hcz26_5, hcz26_6, hcz26_7⟩ := cz8 BK523.out; obtain ⟨hfz26_0, hfz26_1, hfz26_2, hfz26_3, hfz26_4, hfz26_5, hfz26_6, hfz26_7⟩ := fz8 BK523.out; obtain ⟨hcz27_0, hcz27_1, hcz27_2, hcz27_3⟩ := cz4 BK522.out; obtain ⟨hfz27_0, hfz27_1, hfz27_2, hfz27_3⟩ := fz4 BK522.out) | (go_at_call 40; (with_reducible refine (standbyref32_time.calls a1_5 t527 _ A20.out).mono ?_); rintro e w' ⟨rfl, ⟨nd, rfl⟩⟩))
            go_meet
            case rel => exact ⟨_, (!t527), (by first | rfl | (simp; done) | (simp [*]; done)), H', ⟨by first | omega | exact Nat.le_refl _⟩, ⟨by (with_reducible repeat (first | refine blk_drewN ?_ _ | refine blk_drew ?_ | refine blk_alloc ?_ _)); exact BK522.out⟩, ⟨by (with_reducible repeat (first | refine blk_drewN ?_ _ | refine blk_drew ?_ | refine blk_alloc ?_ _)); exact BK523.out⟩, ⟨by (with_reducible repeat (first | refine blk_drewN ?_ _ | refine blk_drew ?_ | refine blk_alloc ?_ _)); exact BK524.out⟩, ⟨kB HB.out⟩⟩
          · rw [if_neg c19] at H
            have c19b0 : (a1_0 == 10) = false := beq_eq_false_iff_ne.mpr c19
            have c19b1 : (a1_0 != 10) = true := bne_iff_ne.mpr c19
            have H' := Aside0.mk H
            clear H
            have hnb28 := NB522_523.out
            have hnc28 := NB523_522.out
            have hnb29 := NB522_524.out
            have hnc29 := NB524_522.out
            obtain ⟨hcz30_0, hcz30_1, hcz30_2, hcz30_3⟩ := cz4 BK522.out
            obtain ⟨hfz30_0, hfz30_1, hfz30_2, hfz30_3⟩ := fz4 BK522.out
            go_wp2_with (first | ((with_reducible refine gate_callee (f := 21) rfl ?_); refine goesL_ (some 7) rfl rfl Try.func21 (by kernel_rfl) rfl #[.agg #[.int .i64 a0_0, .int .i64 a0_1, .int .i64 a0_2, .int .i64 a0_3]] rfl (by (try simp only [List.map_toArray, List.map_cons, List.map_nil]); first | done | rfl | (simp only [List.length_drop, List.length_take]; rfl)) ?_; (with_reducible refine (standbyref32_CheckTarget.calls k a0_0 a0_1 a0_2 a0_3 t525 _ A7.out).mono ?_); rintro e w31 ⟨rfl, hb⟩; refine ⟨_, rfl, ?_⟩; replace BK522 := Aside0.mk (blk_below (g := gb522) (o := .cells #[.int .i64 a0_0, .int .i64 a0_1, .int .i64 a0_2, .int .i64 a0_3] 26 (0, 0)) (by (with_reducible repeat (first | refine blk_drewN ?_ _ | refine blk_drew ?_ | refine blk_alloc ?_ _)); exact BK522.out) hb); replace BK523 := Aside0.mk (blk_below (g := gb523) (o := .cells #[.int .i64 a1_0, .int .i64 a1_1, .int .i64 a1_2, .int .i64 a1_3, .int .i64 a1_4, .int .i64 a1_5, q1_6, q1_7] 53 (0, 0)) (by (with_reducible repeat (first | refine blk_drewN ?_ _ | refine blk_drew ?_ | refine blk_alloc ?_ _)); exact BK523.out) hb); replace BK524 := Aside0.mk (blk_below (g := gb524) (o := .cells #[.int .i64 0, .int .i64 0, .int .i64 0, .int .i64 0] 26 (0, 0)) (by (with_reducible repeat (first | refine blk_drewN ?_ _ | refine blk_drew ?_ | refine blk_alloc ?_ _)); exact BK524.out) hb); replace HB := tB HB hb; (try clear hb); (try clear hb2); (try clear hk); (try clear hi); have hnb32 := NB523_524.out; have hnc32 := NB524_523.out; obtain ⟨hcz33_0, hcz33_1, hcz33_2, hcz33_3, hcz33_4, hcz33_5, hcz33_6, hcz33_7⟩ := cz8 BK523.out; obtain ⟨hfz33_0, hfz33_1, hfz33_2, hfz33_3, hfz33_4, hfz33_5, hfz33_6, hfz33_7⟩ := fz8 BK523.out; obtain ⟨hcz34_0, hcz34_1, hcz34_2, hcz34_3⟩ := cz4 BK522.out; obtain ⟨hfz34_0, hfz34_1, hfz34_2, hfz34_3⟩ := fz4 BK522.out))
            go_meet
            case rel => exact ⟨_, (true), (by first | rfl | (simp; done) | (simp [*]; done)), H', ⟨by first | omega | exact Nat.le_refl _⟩, ⟨by (with_reducible repeat (first | refine blk_drewN ?_ _ | refine blk_drew ?_ | refine blk_alloc ?_ _)); exact BK522.out⟩, ⟨by (with_reducible repeat (first | refine blk_drewN ?_ _ | refine blk_drew ?_ | refine blk_alloc ?_ _)); exact BK523.out⟩, ⟨by (with_reducible repeat (first | refine blk_drewN ?_ _ | refine blk_drew ?_ | refine blk_alloc ?_ _)); exact BK524.out⟩, ⟨kB HB.out⟩⟩
      · rw [if_neg c9] at H
        have c9b0 : (a1_2 == a0_1) = false := beq_eq_false_iff_ne.mpr c9
        have c9b1 : (a1_2 != a0_1) = true := bne_iff_ne.mpr c9
        have H' := Aside0.mk H
        clear H
        have hnb35 := NB522_523.out
        have hnc35 := NB523_522.out
        have hnb36 := NB522_524.out
        have hnc36 := NB524_522.out
        obtain ⟨hcz37_0, hcz37_1, hcz37_2, hcz37_3⟩ := cz4 BK522.out
        obtain ⟨hfz37_0, hfz37_1, hfz37_2, hfz37_3⟩ := fz4 BK522.out
        go_wp2_with (first | ((with_reducible refine gate_callee (f := 21) rfl ?_); refine goesL_ (some 7) rfl rfl Try.func21 (by kernel_rfl) rfl #[.agg #[.int .i64 a0_0, .int .i64 a0_1, .int .i64 a0_2, .int .i64 a0_3]] rfl (by (try simp only [List.map_toArray, List.map_cons, List.map_nil]); first | done | rfl | (simp only [List.length_drop, List.length_take]; rfl)) ?_; (with_reducible refine (standbyref32_CheckTarget.calls k a0_0 a0_1 a0_2 a0_3 t525 _ A7.out).mono ?_); rintro e w38 ⟨rfl, hb⟩; refine ⟨_, rfl, ?_⟩; replace BK522 := Aside0.mk (blk_below (g := gb522) (o := .cells #[.int .i64 a0_0, .int .i64 a0_1, .int .i64 a0_2, .int .i64 a0_3] 26 (0, 0)) (by (with_reducible repeat (first | refine blk_drewN ?_ _ | refine blk_drew ?_ | refine blk_alloc ?_ _)); exact BK522.out) hb); replace BK523 := Aside0.mk (blk_below (g := gb523) (o := .cells #[.int .i64 a1_0, .int .i64 a1_1, .int .i64 a1_2, .int .i64 a1_3, .int .i64 a1_4, .int .i64 a1_5, q1_6, q1_7] 53 (0, 0)) (by (with_reducible repeat (first | refine blk_drewN ?_ _ | refine blk_drew ?_ | refine blk_alloc ?_ _)); exact BK523.out) hb); replace BK524 := Aside0.mk (blk_below (g := gb524) (o := .cells #[.int .i64 0, .int .i64 0, .int .i64 0, .int .i64 0] 26 (0, 0)) (by (with_reducible repeat (first | refine blk_drewN ?_ _ | refine blk_drew ?_ | refine blk_alloc ?_ _)); exact BK524.out) hb); replace HB := tB HB hb; (try clear hb); (try clear hb2); (try clear hk); (try clear hi); have hnb39 := NB523_524.out; have hnc39 := NB524_523.out; obtain ⟨hcz40_0, hcz40_1, hcz40_2, hcz40_3, hcz40_4, hcz40_5, hcz40_6, hcz40_7⟩ := cz8 BK523.out; obtain ⟨hfz40_0, hfz40_1, hfz40_2, hfz40_3, hfz40_4, hfz40_5, hfz40_6, hfz40_7⟩ := fz8 BK523.out; obtain ⟨hcz41_0, hcz41_1, hcz41_2, hcz41_3⟩ := cz4 BK522.out; obtain ⟨hfz41_0, hfz41_1, hfz41_2, hfz41_3⟩ := fz4 BK522.out))
        go_meet
        case rel => exact ⟨_, (true), (by first | rfl | (simp; done) | (simp [*]; done)), H', ⟨by first | omega | exact Nat.le_refl _⟩, ⟨by (with_reducible repeat (first | refine blk_drewN ?_ _ | refine blk_drew ?_ | refine blk_alloc ?_ _)); exact BK522.out⟩, ⟨by (with_reducible repeat (first | refine blk_drewN ?_ _ | refine blk_drew ?_ | refine blk_alloc ?_ _)); exact BK523.out⟩, ⟨by (with_reducible repeat (first | refine blk_drewN ?_ _ | refine blk_drew ?_ | refine blk_alloc ?_ _)); exact BK524.out⟩, ⟨kB HB.out⟩⟩
    · rw [if_neg c8] at H
      have c8b0 : (t525 == 0) = false := beq_eq_false_iff_ne.mpr c8
      have c8b1 : (t525 != 0) = true := bne_iff_ne.mpr c8
      (first | rw [c8b0] | (simp only [i64_w, i32_w]; rw [c8b0]) | skip)
      have H' := Aside0.mk H
      clear H
      have hnb42 := NB522_523.out
      have hnc42 := NB523_522.out
      have hnb43 := NB522_524.out
      have hnc43 := NB524_522.out
      obtain ⟨hcz44_0, hcz44_1, hcz44_2, hcz44_3⟩ := cz4 BK522.out
      obtain ⟨hfz44_0, hfz44_1, hfz44_2, hfz44_3⟩ := fz4 BK522.out
      go_wp2_with (first | ((with_reducible refine gate_callee (f := 21) rfl ?_); refine goesL_ (some 7) rfl rfl Try.func21 (by kernel_rfl) rfl #[.agg #[.int .i64 a0_0, .int .i64 a0_1, .int .i64 a0_2, .int .i64 a0_3]] rfl (by (try simp only [List.map_toArray, List.map_cons, List.map_nil]); first | done | rfl | (simp only [List.length_drop, List.length_take]; rfl)) ?_; (with_reducible refine (standbyref32_CheckTarget.calls k a0_0 a0_1 a0_2 a0_3 t525 _ A7.out).mono ?_); rintro e w45 ⟨rfl, hb⟩; refine ⟨_, rfl, ?_⟩; replace BK522 := Aside0.mk (blk_below (g := gb522) (o := .cells #[.int .i64 a0_0, .int .i64 a0_1, .int .i64 a0_2, .int .i64 a0_3] 26 (0, 0)) (by (with_reducible repeat (first | refine blk_drewN ?_ _ | refine blk_drew ?_ | refine blk_alloc ?_ _)); exact BK522.out) hb); replace BK523 := Aside0.mk (blk_below (g := gb523) (o := .cells #[.int .i64 a1_0, .int .i64 a1_1, .int .i64 a1_2, .int .i64 a1_3, .int .i64 a1_4, .int .i64 a1_5, q1_6, q1_7] 53 (0, 0)) (by (with_reducible repeat (first | refine blk_drewN ?_ _ | refine blk_drew ?_ | refine blk_alloc ?_ _)); exact BK523.out) hb); replace BK524 := Aside0.mk (blk_below (g := gb524) (o := .cells #[.int .i64 0, .int .i64 0, .int .i64 0, .int .i64 0] 26 (0, 0)) (by (with_reducible repeat (first | refine blk_drewN ?_ _ | refine blk_drew ?_ | refine blk_alloc ?_ _)); exact BK524.out) hb); replace HB := tB HB hb; (try clear hb); (try clear hb2); (try clear hk); (try clear hi)))
      go_meet
      case rel => exact ⟨_, (true), (by first | rfl | (simp; done) | (simp [*]; done)), H', ⟨by first | omega | exact Nat.le_refl _⟩, ⟨by (with_reducible repeat (first | refine blk_drewN ?_ _ | refine blk_drew ?_ | refine blk_alloc ?_ _)); exact BK522.out⟩, ⟨by (with_reducible repeat (first | refine blk_drewN ?_ _ | refine blk_drew ?_ | refine blk_alloc ?_ _)); exact BK523.out⟩, ⟨by (with_reducible repeat (first | refine blk_drewN ?_ _ | refine blk_drew ?_ | refine blk_alloc ?_ _)); exact BK524.out⟩, ⟨kB HB.out⟩⟩
  case rest =>
    clear HC3
    try clear c1
    try clear q1
    try clear c2
    try clear p2
    try clear c3
    try clear c4
    try clear c8
    try clear c8b0
    try clear c8b1
    try clear c9
    try clear c9b0
    try clear c9b1
    try clear c10
    try clear c10b0
    try clear c10b1
    try clear c12
    try clear c13
    try clear c16
    try clear c19
    try clear c19b0
    try clear c19b1
    try clear c21
    try clear c22
    try clear c25
    try clear c28
    try clear c29
    try clear c32
    try clear c35
    try clear c36
    try clear c39
    try clear c42
    try clear c43
    try clear hcz14_0 hcz14_1 hcz14_2 hcz14_3
    try clear hcz17_0 hcz17_1 hcz17_2 hcz17_3 hcz17_4 hcz17_5 hcz17_6 hcz17_7
    try clear hcz18_0 hcz18_1 hcz18_2 hcz18_3
    try clear hcz23_0 hcz23_1 hcz23_2 hcz23_3
    try clear hcz26_0 hcz26_1 hcz26_2 hcz26_3 hcz26_4 hcz26_5 hcz26_6 hcz26_7
    try clear hcz27_0 hcz27_1 hcz27_2 hcz27_3
    try clear hcz30_0 hcz30_1 hcz30_2 hcz30_3
    try clear hcz33_0 hcz33_1 hcz33_2 hcz33_3 hcz33_4 hcz33_5 hcz33_6 hcz33_7
    try clear hcz34_0 hcz34_1 hcz34_2 hcz34_3
    try clear hcz37_0 hcz37_1 hcz37_2 hcz37_3
    try clear hcz40_0 hcz40_1 hcz40_2 hcz40_3 hcz40_4 hcz40_5 hcz40_6 hcz40_7
    try clear hcz41_0 hcz41_1 hcz41_2 hcz41_3
    try clear hcz44_0 hcz44_1 hcz44_2 hcz44_3
    try clear hfz14_0 hfz14_1 hfz14_2 hfz14_3
    try clear hfz17_0 hfz17_1 hfz17_2 hfz17_3 hfz17_4 hfz17_5 hfz17_6 hfz17_7
    try clear hfz18_0 hfz18_1 hfz18_2 hfz18_3
    try clear hfz23_0 hfz23_1 hfz23_2 hfz23_3
    try clear hfz26_0 hfz26_1 hfz26_2 hfz26_3 hfz26_4 hfz26_5 hfz26_6 hfz26_7
    try clear hfz27_0 hfz27_1 hfz27_2 hfz27_3
    try clear hfz30_0 hfz30_1 hfz30_2 hfz30_3
    try clear hfz33_0 hfz33_1 hfz33_2 hfz33_3 hfz33_4 hfz33_5 hfz33_6 hfz33_7
    try clear hfz34_0 hfz34_1 hfz34_2 hfz34_3
    try clear hfz37_0 hfz37_1 hfz37_2 hfz37_3
    try clear hfz40_0 hfz40_1 hfz40_2 hfz40_3 hfz40_4 hfz40_5 hfz40_6 hfz40_7
    try clear hfz41_0 hfz41_1 hfz41_2 hfz41_3
    try clear hfz44_0 hfz44_1 hfz44_2 hfz44_3
    obtain ⟨kq, x31_2, rfl, HA, HJ2, BK522, BK523, BK524, HB⟩ := hcut
    cases kq with
    | zero => exact absurd HA.out (by simp [standbyref32_Answer.j0])
    | succ kj2 =>
      have H := HA.out
      clear HA
      simp only [standbyref32_Answer.j0] at H
      by_cases c46 : x31_2 = true
      · subst c46
        have H1 : (some (a0_0, a0_1, a0_2, a0_3, ([] : List (S53)))) = some (r1, r2, r3, r4, r5) := by rw [if_pos rfl] at H; exact H
        clear H
        have H := H1
        clear H1
        simp only [Option.some.injEq, Prod.mk.injEq] at H
        obtain ⟨rfl, rfl, rfl, rfl, rfl⟩ := H
        have hnb47 := NB522_523.out
        have hnc47 := NB523_522.out
        have hnb48 := NB522_524.out
        have hnc48 := NB524_522.out
        obtain ⟨hcz49_0, hcz49_1, hcz49_2, hcz49_3⟩ := cz4 BK522.out
        obtain ⟨hfz49_0, hfz49_1, hfz49_2, hfz49_3⟩ := fz4 BK522.out
        have hnb50 := NB524_523.out
        have hnc50 := NB523_524.out
        obtain ⟨hcz51_0, hcz51_1, hcz51_2, hcz51_3⟩ := cz4 BK524.out
        obtain ⟨hfz51_0, hfz51_1, hfz51_2, hfz51_3⟩ := fz4 BK524.out
        go_wp2
        refine bodyPost_ret (results_ct rfl _ _ gb524 26 #[.int .i64 a0_0, .int .i64 a0_1, .int .i64 a0_2, .int .i64 a0_3] (0, 0) _ rfl (by (with_reducible repeat (first | refine blk_drewN ?_ _ | refine blk_drew ?_ | refine blk_alloc ?_ _)); refine blk_put (cs := #[.int .i64 a0_0, .int .i64 a0_1, .int .i64 a0_2, .int .i64 0]) ?_ 3 _ rfl; (with_reducible repeat (first | refine blk_drewN ?_ _ | refine blk_drew ?_ | refine blk_alloc ?_ _)); refine blk_put (cs := #[.int .i64 a0_0, .int .i64 a0_1, .int .i64 0, .int .i64 0]) ?_ 2 _ rfl; (with_reducible repeat (first | refine blk_drewN ?_ _ | refine blk_drew ?_ | refine blk_alloc ?_ _)); refine blk_put (cs := #[.int .i64 a0_0, .int .i64 0, .int .i64 0, .int .i64 0]) ?_ 1 _ rfl; (with_reducible repeat (first | refine blk_drewN ?_ _ | refine blk_drew ?_ | refine blk_alloc ?_ _)); refine blk_put (cs := #[.int .i64 0, .int .i64 0, .int .i64 0, .int .i64 0]) ?_ 0 _ rfl; (with_reducible repeat (first | refine blk_drewN ?_ _ | refine blk_drew ?_ | refine blk_alloc ?_ _)); exact BK524.out) Try.underlying26 rfl (by kernel_rfl)) rfl ?_
        exact ⟨_, by first | rfl | (simp [errW_none, errW_some] <;> rfl) | (simp [*, errW_none, errW_some] <;> rfl), by first | exact Kd.R_nil _ _ _ _ _ | exact Kd.N_nil _ _ _ _ _ | exact Kd.V_nil _ _ _ _ _ | exact Kd.Q_nil _ _ _ _ _ | exact Kd.S_nil _ _ _ _ _, (kB HB.out)⟩
      · replace c46 := Bool.eq_false_iff.mpr c46
        subst c46
        have H1 : (if a1_5 < a0_0 then ((standbyref32_toSource.f a0_0 a0_1 a0_2 a0_3 12 0).bind fun t528 => (some (a0_0, a0_1, a0_2, a0_3, t528))) else (if a1_5 > a0_0 then (standbyref32_Answer.j1 kj2 a1_5 a0_1 a0_3 a0_3 a1_0 a1_1 a1_2 a1_3 a1_4 a1_5) else (standbyref32_Answer.j1 kj2 a0_0 a0_1 a0_2 a0_3 a1_0 a1_1 a1_2 a1_3 a1_4 a1_5))) = some (r1, r2, r3, r4, r5) := by rw [if_neg (show ¬ (false = true) by decide)] at H; exact H
        clear H
        have H := H1
        clear H1
        by_cases c52 : a1_5 < a0_0
        · rw [if_pos c52] at H
          have c52b0 : decide (a1_5 < a0_0) = true := decide_eq_true c52
          clear c52
          replace H := Option.bind_eq_some_iff.mp H
          obtain ⟨t528, A530, H⟩ := H
          (try dsimp only at H)
          have A53 := Aside0.mk A530
          clear A530
          simp only [Option.some.injEq, Prod.mk.injEq] at H
          obtain ⟨rfl, rfl, rfl, rfl, rfl⟩ := H
          have hnb54 := NB523_522.out
          have hnc54 := NB522_523.out
          have hnb55 := NB523_524.out
          have hnc55 := NB524_523.out
          obtain ⟨hcz56_0, hcz56_1, hcz56_2, hcz56_3, hcz56_4, hcz56_5, hcz56_6, hcz56_7⟩ := cz8 BK523.out
          obtain ⟨hfz56_0, hfz56_1, hfz56_2, hfz56_3, hfz56_4, hfz56_5, hfz56_6, hfz56_7⟩ := fz8 BK523.out
          have hnb57 := NB522_524.out
          have hnc57 := NB524_522.out
          obtain ⟨hcz58_0, hcz58_1, hcz58_2, hcz58_3⟩ := cz4 BK522.out
          obtain ⟨hfz58_0, hfz58_1, hfz58_2, hfz58_3⟩ := fz4 BK522.out
          try go_wp2
          have n0_ := Aside0.mk (blk_drew BK522.out)
          have n1_ := Aside0.mk (blk_drew BK523.out)
          have n2_ := Aside0.mk (blk_drew BK524.out)
          have n3_ := Aside0.mk (below_drew1 HB.out)
          clear BK522
          clear BK523
          clear BK524
          clear HB
          have BK522 := n0_
          have BK523 := n1_
          have BK524 := n2_
          have HB := n3_
          clear n0_ n1_ n2_ n3_
          refine start_ (n := 5) (S := fun w' => w'.cell? ⟨gb522, 0, none⟩ = some (.int .i64 a0_0) ∧ w'.cell? ⟨gb522, 1, none⟩ = some (.int .i64 a0_1) ∧ w'.cell? ⟨gb522, 2, none⟩ = some (.int .i64 a0_2) ∧ w'.cell? ⟨gb522, 3, none⟩ = some (.int .i64 a0_3)) (ds := []) #[false, false, false, false, false] (by kernel_rfl) rfl rfl ⟨(blk_cell BK522.out 0).trans rfl, (blk_cell BK522.out 1).trans rfl, (blk_cell BK522.out 2).trans rfl, (blk_cell BK522.out 3).trans rfl⟩ (fun hHeld => ?_)
          generalize wc.drew = w59 at BK522 BK523 BK524 HB hHeld ⊢
          refine take_ (i := 0) (N := some 38) (v := ?_) (a' := ?_) #[true, false, false, false, false] rfl rfl (by kernel_rfl) (fun _ _ _ h => h) (Or.inl ⟨by rfl, ?_⟩) hHeld ?_ ?_
          rotate_left
          · rintro w' ⟨s0, s1, s2, s3⟩
            go_simp
            with_reducible rfl
          rotate_left
          · simp only [Act.put, List.setIfInBounds_toArray, List.set_cons_zero, List.set_cons_succ, i64_w, i32_w]
            rfl
          refine take_ (i := 1) (N := some 39) (v := ?_) (a' := ?_) #[true, true, false, false, false] rfl rfl (by kernel_rfl) (fun _ _ _ h => h) (Or.inl ⟨by rfl, ?_⟩) hHeld ?_ ?_
          rotate_left
          · rintro w' ⟨s0, s1, s2, s3⟩
            go_simp
            with_reducible rfl
          rotate_left
          · simp only [Act.put, List.setIfInBounds_toArray, List.set_cons_zero, List.set_cons_succ, i64_w, i32_w]
            rfl
          refine one_ (i := 2) (N := some 40) #[true, true, true, false, false] rfl rfl (by kernel_rfl) (by decide) (fun K hK => ?_)
          refine goes_ Try.func55 (by kernel_rfl) rfl #[.agg #[.int .i64 a0_0, .int .i64 a0_1, .int .i64 a0_2, .int .i64 a0_3], .int .i64 12, .int .i64 0] (by rfl) rfl rfl (by (try simp only [List.map_toArray, List.map_cons, List.map_nil]); first | done | rfl | (simp only [List.length_drop, List.length_take]; rfl)) ?_
          with_reducible refine (standbyref32_toSource.calls a0_0 a0_1 a0_2 a0_3 12 0 t528 _ A53.out).mono ?_
          rintro e w60 ⟨v529, rfl, ho0, hb⟩
          refine ⟨_, rfl, ?_⟩
          have n0_ := Aside0.mk (Kd.R_lower (Kd.R_newB ho0 (g := gb523) (o := .cells #[.int .i64 a1_0, .int .i64 a1_1, .int .i64 a1_2, .int .i64 a1_3, .int .i64 a1_4, .int .i64 a1_5, q1_6, q1_7] 53 (0, 0)) (by (with_reducible repeat (first | refine blk_drewN ?_ _ | refine blk_drew ?_ | refine blk_alloc ?_ _)); exact BK523.out)) (kZ HB.out))
          have n1_ := Aside0.mk (blk_below (g := gb522) (o := .cells #[.int .i64 a0_0, .int .i64 a0_1, .int .i64 a0_2, .int .i64 a0_3] 26 (0, 0)) (by (with_reducible repeat (first | refine blk_drewN ?_ _ | refine blk_drew ?_ | refine blk_alloc ?_ _)); exact BK522.out) hb)
          have n2_ := Aside0.mk (blk_below (g := gb523) (o := .cells #[.int .i64 a1_0, .int .i64 a1_1, .int .i64 a1_2, .int .i64 a1_3, .int .i64 a1_4, .int .i64 a1_5, q1_6, q1_7] 53 (0, 0)) (by (with_reducible repeat (first | refine blk_drewN ?_ _ | refine blk_drew ?_ | refine blk_alloc ?_ _)); exact BK523.out) hb)
          have n3_ := Aside0.mk (blk_below (g := gb524) (o := .cells #[.int .i64 0, .int .i64 0, .int .i64 0, .int .i64 0] 26 (0, 0)) (by (with_reducible repeat (first | refine blk_drewN ?_ _ | refine blk_drew ?_ | refine blk_alloc ?_ _)); exact BK524.out) hb)
          have n4_ := tB HB hb
          clear BK522
          clear BK523
          clear BK524
          clear HB
          have HO530 := n0_
          have BK522 := n1_
          have BK523 := n2_
          have BK524 := n3_
          have HB := n4_
          clear n0_ n1_ n2_ n3_ n4_
          (try clear hb)
          (try clear hb2)
          (try clear hk)
          (try clear hi)
          (try clear ho0)
          refine hK.out _ _ ⟨(blk_cell BK522.out 0).trans rfl, (blk_cell BK522.out 1).trans rfl, (blk_cell BK522.out 2).trans rfl, (blk_cell BK522.out 3).trans rfl⟩ (fun hHeld => ?_)
          clear hK K
          refine norm_ (a' := ?_) ?_ ?_
          rotate_left
          · show Act.put _ (some 40) _ = _
            simp only [Act.put, List.setIfInBounds_toArray, List.set_cons_zero, List.set_cons_succ, i64_w, i32_w]
            rfl
          refine one_ (i := 3) (N := none) #[true, true, true, true, false] rfl rfl (by kernel_rfl) (by decide) (fun K hK => ?_)
          have hs61 : w60.cell? ⟨gb524, 0, none⟩ = some (.int .i64 0) := (blk_cell BK524.out 0).trans rfl
          have hfs61 := blk_frozen BK524.out 0
          have hns61_0 := NB522_524.out
          have hns61_1 := NB523_524.out
          have hms61_0 := NB524_522.out
          have hms61_1 := NB524_523.out
          have hs62 : w60.cell? ⟨gb524, 1, none⟩ = some (.int .i64 0) := (blk_cell BK524.out 1).trans rfl
          have hfs62 := blk_frozen BK524.out 1
          have hns62_0 := NB522_524.out
          have hns62_1 := NB523_524.out
          have hms62_0 := NB524_522.out
          have hms62_1 := NB524_523.out
          have hs63 : w60.cell? ⟨gb524, 2, none⟩ = some (.int .i64 0) := (blk_cell BK524.out 2).trans rfl
          have hfs63 := blk_frozen BK524.out 2
          have hns63_0 := NB522_524.out
          have hns63_1 := NB523_524.out
          have hms63_0 := NB524_522.out
          have hms63_1 := NB524_523.out
          have hs64 : w60.cell? ⟨gb524, 3, none⟩ = some (.int .i64 0) := (blk_cell BK524.out 3).trans rfl
          have hfs64 := blk_frozen BK524.out 3
          have hns64_0 := NB522_524.out
          have hns64_1 := NB523_524.out
          have hms64_0 := NB524_522.out
          have hms64_1 := NB524_523.out
          refine skip_ (w1 := ?_) (by rfl) rfl ?_ ?_
          rotate_left
          · go_simp
            rfl
          refine hK.out _ _ ⟨((cell_far (p := ⟨gb524, _, none⟩) NB522_524.out _).trans (((cell_far (p := ⟨gb524, _, none⟩) NB522_524.out _).trans (((cell_far (p := ⟨gb524, _, none⟩) NB522_524.out _).trans (((cell_far (p := ⟨gb524, _, none⟩) NB522_524.out _).trans (hHeld.1)))))))), ((cell_far (p := ⟨gb524, _, none⟩) NB522_524.out _).trans (((cell_far (p := ⟨gb524, _, none⟩) NB522_524.out _).trans (((cell_far (p := ⟨gb524, _, none⟩) NB522_524.out _).trans (((cell_far (p := ⟨gb524, _, none⟩) NB522_524.out _).trans (hHeld.2.1)))))))), ((cell_far (p := ⟨gb524, _, none⟩) NB522_524.out _).trans (((cell_far (p := ⟨gb524, _, none⟩) NB522_524.out _).trans (((cell_far (p := ⟨gb524, _, none⟩) NB522_524.out _).trans (((cell_far (p := ⟨gb524, _, none⟩) NB522_524.out _).trans (hHeld.2.2.1)))))))), ((cell_far (p := ⟨gb524, _, none⟩) NB522_524.out _).trans (((cell_far (p := ⟨gb524, _, none⟩) NB522_524.out _).trans (((cell_far (p := ⟨gb524, _, none⟩) NB522_524.out _).trans (((cell_far (p := ⟨gb524, _, none⟩) NB522_524.out _).trans (hHeld.2.2.2))))))))⟩ (fun hHeld => ?_)
          clear hK K
          refine pure_ (i := 4) (N := some 5) (v := ?_) (a' := ?_) #[true, true, true, true, true] rfl rfl (by kernel_rfl) (fun _ _ _ h => h) (Or.inl ⟨by rfl, ?_⟩) ?_ ?_
          rotate_left
          · intro w'
            go_simp
            with_reducible rfl
          rotate_left
          · simp only [Act.put, List.setIfInBounds_toArray, List.set_cons_zero, List.set_cons_succ, i64_w, i32_w]
            rfl
          refine done_ (by kernel_rfl) ?_
          try go_wp2
          refine bodyPost_ret (results_ct rfl _ _ gb524 26 #[.int .i64 a0_0, .int .i64 a0_1, .int .i64 a0_2, .int .i64 a0_3] (0, 0) _ rfl (by (with_reducible repeat (first | refine blk_drewN ?_ _ | refine blk_drew ?_ | refine blk_alloc ?_ _)); refine blk_put (cs := #[.int .i64 a0_0, .int .i64 a0_1, .int .i64 a0_2, .int .i64 0]) ?_ 3 _ rfl; (with_reducible repeat (first | refine blk_drewN ?_ _ | refine blk_drew ?_ | refine blk_alloc ?_ _)); refine blk_put (cs := #[.int .i64 a0_0, .int .i64 a0_1, .int .i64 0, .int .i64 0]) ?_ 2 _ rfl; (with_reducible repeat (first | refine blk_drewN ?_ _ | refine blk_drew ?_ | refine blk_alloc ?_ _)); refine blk_put (cs := #[.int .i64 a0_0, .int .i64 0, .int .i64 0, .int .i64 0]) ?_ 1 _ rfl; (with_reducible repeat (first | refine blk_drewN ?_ _ | refine blk_drew ?_ | refine blk_alloc ?_ _)); refine blk_put (cs := #[.int .i64 0, .int .i64 0, .int .i64 0, .int .i64 0]) ?_ 0 _ rfl; (with_reducible repeat (first | refine blk_drewN ?_ _ | refine blk_drew ?_ | refine blk_alloc ?_ _)); exact BK524.out) Try.underlying26 rfl (by kernel_rfl)) rfl ?_
          exact ⟨_, by first | rfl | (simp [errW_none, errW_some] <;> rfl) | (simp [*, errW_none, errW_some] <;> rfl), by (with_reducible repeat (first | apply Kd.R_alloc | apply Kd.R_drewN | apply Kd.R_drew)); exact Kd.R_mono (rf4 gb524 0 (Kd.R_types HO530.out BK524.out (by decide)) (fun _ hk => hk.2) (.int .i64 a0_0) (.int .i64 a0_1) (.int .i64 a0_2) (.int .i64 a0_3)) (fun _ hk => trivial), (kB HB.out)⟩
        · rw [if_neg c52] at H
          have c52b0 : decide (a1_5 < a0_0) = false := decide_eq_false c52
          clear c52
          have HC65 := Aside0.mk H
          clear H
          have hnb66 := NB523_522.out
          have hnc66 := NB522_523.out
          have hnb67 := NB523_524.out
          have hnc67 := NB524_523.out
          obtain ⟨hcz68_0, hcz68_1, hcz68_2, hcz68_3, hcz68_4, hcz68_5, hcz68_6, hcz68_7⟩ := cz8 BK523.out
          obtain ⟨hfz68_0, hfz68_1, hfz68_2, hfz68_3, hfz68_4, hfz68_5, hfz68_6, hfz68_7⟩ := fz8 BK523.out
          have hnb69 := NB522_524.out
          have hnc69 := NB524_522.out
          obtain ⟨hcz70_0, hcz70_1, hcz70_2, hcz70_3⟩ := cz4 BK522.out
          obtain ⟨hfz70_0, hfz70_1, hfz70_2, hfz70_3⟩ := fz4 BK522.out
          go_upto_if 45 with (fail)
          go_cut [] (fun wc => ∃ (kq : Nat) (x523000_64 : Int) (x523002_64 : Int), Aside0 (standbyref32_Answer.j1 kq x523000_64 a0_1 x523002_64 a0_3 a1_0 a1_1 a1_2 a1_3 a1_4 a1_5 = some (r1, r2, r3, r4, r5)) ∧ Aside0 (kq ≤ kj2) ∧ Aside0 (wc.heap[gb522]? = some (.cells #[.int .i64 x523000_64, .int .i64 a0_1, .int .i64 x523002_64, .int .i64 a0_3] 26 (0, 0))) ∧ Aside0 (wc.heap[gb523]? = some (.cells #[.int .i64 a1_0, .int .i64 a1_1, .int .i64 a1_2, .int .i64 a1_3, .int .i64 a1_4, .int .i64 a1_5, q1_6, q1_7] 53 (0, 0))) ∧ Aside0 (wc.heap[gb524]? = some (.cells #[.int .i64 0, .int .i64 0, .int .i64 0, .int .i64 0] 26 (0, 0))) ∧ Aside0 (Below w.heap.size w wc))
          case first =>
            have H := HC65.out
            clear HC65
            by_cases c71 : a1_5 > a0_0
            · rw [if_pos c71] at H
              have c71b0 : decide (a0_0 < a1_5) = true := decide_eq_true c71
              clear c71
              (first | rw [c71b0] | (simp only [i64_w, i32_w]; rw [c71b0]) | skip)
              have H' := Aside0.mk H
              clear H
              have hnb72 := NB523_522.out
              have hnc72 := NB522_523.out
              have hnb73 := NB523_524.out
              have hnc73 := NB524_523.out
              obtain ⟨hcz74_0, hcz74_1, hcz74_2, hcz74_3, hcz74_4, hcz74_5, hcz74_6, hcz74_7⟩ := cz8 BK523.out
              obtain ⟨hfz74_0, hfz74_1, hfz74_2, hfz74_3, hfz74_4, hfz74_5, hfz74_6, hfz74_7⟩ := fz8 BK523.out
              have hnb75 := NB522_524.out
              have hnc75 := NB524_522.out
              obtain ⟨hcz76_0, hcz76_1, hcz76_2, hcz76_3⟩ := cz4 BK522.out
              obtain ⟨hfz76_0, hfz76_1, hfz76_2, hfz76_3⟩ := fz4 BK522.out
              go_wp2
              go_meet
              case rel => exact ⟨_, (a1_5), (a0_3), H', ⟨by have := HJ2.out; first | omega | exact Nat.le_refl _⟩, ⟨by (with_reducible repeat (first | refine blk_drewN ?_ _ | refine blk_drew ?_ | refine blk_alloc ?_ _)); refine blk_put (cs := #[.int .i64 a1_5, .int .i64 a0_1, .int .i64 a0_2, .int .i64 a0_3]) ?_ 2 _ rfl; (with_reducible repeat (first | refine blk_drewN ?_ _ | refine blk_drew ?_ | refine blk_alloc ?_ _)); refine blk_put (cs := #[.int .i64 a0_0, .int .i64 a0_1, .int .i64 a0_2, .int .i64 a0_3]) ?_ 0 _ rfl; (with_reducible repeat (first | refine blk_drewN ?_ _ | refine blk_drew ?_ | refine blk_alloc ?_ _)); exact BK522.out⟩, ⟨by (with_reducible repeat (first | refine blk_drewN ?_ _ | refine blk_drew ?_ | refine blk_alloc ?_ _)); refine blk_far ?_ NB523_522.out _; (with_reducible repeat (first | refine blk_drewN ?_ _ | refine blk_drew ?_ | refine blk_alloc ?_ _)); refine blk_far ?_ NB523_522.out _; (with_reducible repeat (first | refine blk_drewN ?_ _ | refine blk_drew ?_ | refine blk_alloc ?_ _)); exact BK523.out⟩, ⟨by (with_reducible repeat (first | refine blk_drewN ?_ _ | refine blk_drew ?_ | refine blk_alloc ?_ _)); refine blk_far ?_ NB524_522.out _; (with_reducible repeat (first | refine blk_drewN ?_ _ | refine blk_drew ?_ | refine blk_alloc ?_ _)); refine blk_far ?_ NB524_522.out _; (with_reducible repeat (first | refine blk_drewN ?_ _ | refine blk_drew ?_ | refine blk_alloc ?_ _)); exact BK524.out⟩, ⟨kB HB.out⟩⟩
            · rw [if_neg c71] at H
              have c71b0 : decide (a0_0 < a1_5) = false := decide_eq_false c71
              clear c71
              (first | rw [c71b0] | (simp only [i64_w, i32_w]; rw [c71b0]) | skip)
              have H' := Aside0.mk H
              clear H
              go_wp2
              go_meet
              case rel => exact ⟨_, (a0_0), (a0_2), H', ⟨by have := HJ2.out; first | omega | exact Nat.le_refl _⟩, ⟨by (with_reducible repeat (first | refine blk_drewN ?_ _ | refine blk_drew ?_ | refine blk_alloc ?_ _)); exact BK522.out⟩, ⟨by (with_reducible repeat (first | refine blk_drewN ?_ _ | refine blk_drew ?_ | refine blk_alloc ?_ _)); exact BK523.out⟩, ⟨by (with_reducible repeat (first | refine blk_drewN ?_ _ | refine blk_drew ?_ | refine blk_alloc ?_ _)); exact BK524.out⟩, ⟨kB HB.out⟩⟩
          case rest =>
            clear HC65
            try clear c1
            try clear q1
            try clear c2
            try clear p2
            try clear c3
            try clear c4
            try clear c5
            try clear c6
            try clear c7
            try clear c8
            try clear c8b0
            try clear c8b1
            try clear c9
            try clear c9b0
            try clear c9b1
            try clear c10
            try clear c10b0
            try clear c10b1
            try clear c12
            try clear c13
            try clear c16
            try clear c19
            try clear c19b0
            try clear c19b1
            try clear c21
            try clear c22
            try clear c25
            try clear c28
            try clear c29
            try clear c32
            try clear c35
            try clear c36
            try clear c39
            try clear c42
            try clear c43
            try clear c46
            try clear c47
            try clear c48
            try clear c50
            try clear c52
            try clear c52b0
            try clear c54
            try clear c55
            try clear c57
            try clear c66
            try clear c67
            try clear c69
            try clear c71
            try clear c71b0
            try clear c72
            try clear c73
            try clear c75
            try clear hcz14_0 hcz14_1 hcz14_2 hcz14_3
            try clear hcz17_0 hcz17_1 hcz17_2 hcz17_3 hcz17_4 hcz17_5 hcz17_6 hcz17_7
            try clear hcz18_0 hcz18_1 hcz18_2 hcz18_3
            try clear hcz23_0 hcz23_1 hcz23_2 hcz23_3
            try clear hcz26_0 hcz26_1 hcz26_2 hcz26_3 hcz26_4 hcz26_5 hcz26_6 hcz26_7
            try clear hcz27_0 hcz27_1 hcz27_2 hcz27_3
            try clear hcz30_0 hcz30_1 hcz30_2 hcz30_3
            try clear hcz33_0 hcz33_1 hcz33_2 hcz33_3 hcz33_4 hcz33_5 hcz33_6 hcz33_7
            try clear hcz34_0 hcz34_1 hcz34_2 hcz34_3
            try clear hcz37_0 hcz37_1 hcz37_2 hcz37_3
            try clear hcz40_0 hcz40_1 hcz40_2 hcz40_3 hcz40_4 hcz40_5 hcz40_6 hcz40_7
            try clear hcz41_0 hcz41_1 hcz41_2 hcz41_3
            try clear hcz44_0 hcz44_1 hcz44_2 hcz44_3
            try clear hcz49_0 hcz49_1 hcz49_2 hcz49_3
            try clear hcz51_0 hcz51_1 hcz51_2 hcz51_3
            try clear hcz56_0 hcz56_1 hcz56_2 hcz56_3 hcz56_4 hcz56_5 hcz56_6 hcz56_7
            try clear hcz58_0 hcz58_1 hcz58_2 hcz58_3
            try clear hcz68_0 hcz68_1 hcz68_2 hcz68_3 hcz68_4 hcz68_5 hcz68_6 hcz68_7
            try clear hcz70_0 hcz70_1 hcz70_2 hcz70_3
            try clear hcz74_0 hcz74_1 hcz74_2 hcz74_3 hcz74_4 hcz74_5 hcz74_6 hcz74_7
            try clear hcz76_0 hcz76_1 hcz76_2 hcz76_3
            try clear hfz14_0 hfz14_1 hfz14_2 hfz14_3
            try clear hfz17_0 hfz17_1 hfz17_2 hfz17_3 hfz17_4 hfz17_5 hfz17_6 hfz17_7
            try clear hfz18_0 hfz18_1 hfz18_2 hfz18_3
            try clear hfz23_0 hfz23_1 hfz23_2 hfz23_3
            try clear hfz26_0 hfz26_1 hfz26_2 hfz26_3 hfz26_4 hfz26_5 hfz26_6 hfz26_7
            try clear hfz27_0 hfz27_1 hfz27_2 hfz27_3
            try clear hfz30_0 hfz30_1 hfz30_2 hfz30_3
            try clear hfz33_0 hfz33_1 hfz33_2 hfz33_3 hfz33_4 hfz33_5 hfz33_6 hfz33_7
            try clear hfz34_0 hfz34_1 hfz34_2 hfz34_3
            try clear hfz37_0 hfz37_1 hfz37_2 hfz37_3
            try clear hfz40_0 hfz40_1 hfz40_2 hfz40_3 hfz40_4 hfz40_5 hfz40_6 hfz40_7
            try clear hfz41_0 hfz41_1 hfz41_2 hfz41_3
            try clear hfz44_0 hfz44_1 hfz44_2 hfz44_3
            try clear hfz49_0 hfz49_1 hfz49_2 hfz49_3
            try clear hfz51_0 hfz51_1 hfz51_2 hfz51_3
            try clear hfz56_0 hfz56_1 hfz56_2 hfz56_3 hfz56_4 hfz56_5 hfz56_6 hfz56_7
            try clear hfz58_0 hfz58_1 hfz58_2 hfz58_3
            try clear hfz68_0 hfz68_1 hfz68_2 hfz68_3 hfz68_4 hfz68_5 hfz68_6 hfz68_7
            try clear hfz70_0 hfz70_1 hfz70_2 hfz70_3
            try clear hfz74_0 hfz74_1 hfz74_2 hfz74_3 hfz74_4 hfz74_5 hfz74_6 hfz74_7
            try clear hfz76_0 hfz76_1 hfz76_2 hfz76_3
            try clear p2
            try clear q1
            obtain ⟨kq, x523000_64, x523002_64, HA, HJ64, BK522, BK523, BK524, HB⟩ := hcut
            cases kq with
            | zero => exact absurd HA.out (by simp [standbyref32_Answer.j1])
            | succ kj64 =>
              have H := HA.out
              clear HA
              simp only [standbyref32_Answer.j1] at H
              by_cases c77 : a1_0 = 8
              · rw [if_pos c77] at H
                have c77b0 : (a1_0 == 8) = true := beq_iff_eq.mpr c77
                have c77b1 : (a1_0 != 8) = false := bne_eq_false_iff_eq.mpr c77
                clear c77
                replace H := Option.bind_eq_some_iff.mp H
                obtain ⟨t531, A780, H⟩ := H
                (try dsimp only at H)
                have A78 := Aside0.mk A780
                clear A780
                simp only [Option.some.injEq, Prod.mk.injEq] at H
                obtain ⟨rfl, rfl, rfl, rfl, rfl⟩ := H
                have hnb79 := NB523_522.out
                have hnc79 := NB522_523.out
                have hnb80 := NB523_524.out
                have hnc80 := NB524_523.out
                obtain ⟨hcz81_0, hcz81_1, hcz81_2, hcz81_3, hcz81_4, hcz81_5, hcz81_6, hcz81_7⟩ := cz8 BK523.out
                obtain ⟨hfz81_0, hfz81_1, hfz81_2, hfz81_3, hfz81_4, hfz81_5, hfz81_6, hfz81_7⟩ := fz8 BK523.out
                try go_wp2
                have n0_ := Aside0.mk (blk_drew BK522.out)
                have n1_ := Aside0.mk (blk_drew BK523.out)
                have n2_ := Aside0.mk (blk_drew BK524.out)
                have n3_ := Aside0.mk (below_drew1 HB.out)
                clear BK522
                clear BK523
                clear BK524
                clear HB
                have BK522 := n0_
                have BK523 := n1_
                have BK524 := n2_
                have HB := n3_
                clear n0_ n1_ n2_ n3_
                refine start_ (n := 7) (S := fun w' => w'.cell? ⟨gb522, 0, none⟩ = some (.int .i64 x523000_64) ∧ w'.cell? ⟨gb522, 1, none⟩ = some (.int .i64 a0_1) ∧ w'.cell? ⟨gb522, 2, none⟩ = some (.int .i64 x523002_64) ∧ w'.cell? ⟨gb522, 3, none⟩ = some (.int .i64 a0_3)) (ds := []) #[false, false, false, false, false, false, false] (by kernel_rfl) rfl rfl ⟨(blk_cell BK522.out 0).trans rfl, (blk_cell BK522.out 1).trans rfl, (blk_cell BK522.out 2).trans rfl, (blk_cell BK522.out 3).trans rfl⟩ (fun hHeld => ?_)
                generalize wc.drew = w82 at BK522 BK523 BK524 HB hHeld ⊢
                refine pure_ (i := 2) (N := some 57) (v := ?_) (a' := ?_) #[false, false, true, false, false, false, false] rfl rfl (by kernel_rfl) (fun _ _ _ h => h) (Or.inl ⟨by rfl, ?_⟩) ?_ ?_
                rotate_left
                · intro w'
                  go_simp
                  with_reducible rfl
                rotate_left
                · simp only [Act.put, List.setIfInBounds_toArray, List.set_cons_zero, List.set_cons_succ, i64_w, i32_w]
                  rfl
                refine take_ (i := 0) (N := some 55) (v := ?_) (a' := ?_) #[true, false, true, false, false, false, false] rfl rfl (by kernel_rfl) (fun _ _ _ h => h) (Or.inl ⟨by rfl, ?_⟩) hHeld ?_ ?_
                rotate_left
                · rintro w' ⟨s0, s1, s2, s3⟩
                  go_simp
                  with_reducible rfl
                rotate_left
                · simp only [Act.put, List.setIfInBounds_toArray, List.set_cons_zero, List.set_cons_succ, i64_w, i32_w]
                  rfl
                refine take_ (i := 1) (N := some 56) (v := ?_) (a' := ?_) #[true, true, true, false, false, false, false] rfl rfl (by kernel_rfl) (fun _ _ _ h => h) (Or.inl ⟨by rfl, ?_⟩) hHeld ?_ ?_
                rotate_left
                · rintro w' ⟨s0, s1, s2, s3⟩
                  go_simp
                  with_reducible rfl
                rotate_left
                · simp only [Act.put, List.setIfInBounds_toArray, List.set_cons_zero, List.set_cons_succ, i64_w, i32_w]
                  rfl
                refine take_ (i := 3) (N := some 58) (v := ?_) (a' := ?_) #[true, true, true, true, false, false, false] rfl rfl (by kernel_rfl) (fun _ _ _ h => h) (Or.inl ⟨by rfl, ?_⟩) hHeld ?_ ?_
                rotate_left
                · rintro w' ⟨s0, s1, s2, s3⟩
                  go_simp
                  with_reducible rfl
                rotate_left
                · simp only [Act.put, List.setIfInBounds_toArray, List.set_cons_zero, List.set_cons_succ, i64_w, i32_w]
                  rfl
                refine one_ (i := 4) (N := some 59) #[true, true, true, true, true, false, false] rfl rfl (by kernel_rfl) (by decide) (fun K hK => ?_)
                refine goes_ Try.func55 (by kernel_rfl) rfl #[.agg #[.int .i64 x523000_64, .int .i64 a0_1, .int .i64 x523002_64, .int .i64 a0_3], .int .i64 9, .int .i64 x523002_64] (by rfl) rfl rfl (by (try simp only [List.map_toArray, List.map_cons, List.map_nil]); first | done | rfl | (simp only [List.length_drop, List.length_take]; rfl)) ?_
                with_reducible refine (standbyref32_toSource.calls x523000_64 a0_1 x523002_64 a0_3 9 x523002_64 t531 _ A78.out).mono ?_
                rintro e w83 ⟨v532, rfl, ho0, hb⟩
                refine ⟨_, rfl, ?_⟩
                have n0_ := Aside0.mk (Kd.R_lower (Kd.R_newB ho0 (g := gb523) (o := .cells #[.int .i64 a1_0, .int .i64 a1_1, .int .i64 a1_2, .int .i64 a1_3, .int .i64 a1_4, .int .i64 a1_5, q1_6, q1_7] 53 (0, 0)) (by (with_reducible repeat (first | refine blk_drewN ?_ _ | refine blk_drew ?_ | refine blk_alloc ?_ _)); exact BK523.out)) (kZ HB.out))
                have n1_ := Aside0.mk (blk_below (g := gb522) (o := .cells #[.int .i64 x523000_64, .int .i64 a0_1, .int .i64 x523002_64, .int .i64 a0_3] 26 (0, 0)) (by (with_reducible repeat (first | refine blk_drewN ?_ _ | refine blk_drew ?_ | refine blk_alloc ?_ _)); exact BK522.out) hb)
                have n2_ := Aside0.mk (blk_below (g := gb523) (o := .cells #[.int .i64 a1_0, .int .i64 a1_1, .int .i64 a1_2, .int .i64 a1_3, .int .i64 a1_4, .int .i64 a1_5, q1_6, q1_7] 53 (0, 0)) (by (with_reducible repeat (first | refine blk_drewN ?_ _ | refine blk_drew ?_ | refine blk_alloc ?_ _)); exact BK523.out) hb)
                have n3_ := Aside0.mk (blk_below (g := gb524) (o := .cells #[.int .i64 0, .int .i64 0, .int .i64 0, .int .i64 0] 26 (0, 0)) (by (with_reducible repeat (first | refine blk_drewN ?_ _ | refine blk_drew ?_ | refine blk_alloc ?_ _)); exact BK524.out) hb)
                have n4_ := tB HB hb
                clear BK522
                clear BK523
                clear BK524
                clear HB
                have HO533 := n0_
                have BK522 := n1_
                have BK523 := n2_
                have BK524 := n3_
                have HB := n4_
                clear n0_ n1_ n2_ n3_ n4_
                (try clear hb)
                (try clear hb2)
                (try clear hk)
                (try clear hi)
                (try clear ho0)
                refine hK.out _ _ ⟨(blk_cell BK522.out 0).trans rfl, (blk_cell BK522.out 1).trans rfl, (blk_cell BK522.out 2).trans rfl, (blk_cell BK522.out 3).trans rfl⟩ (fun hHeld => ?_)
                clear hK K
                refine norm_ (a' := ?_) ?_ ?_
                rotate_left
                · show Act.put _ (some 59) _ = _
                  simp only [Act.put, List.setIfInBounds_toArray, List.set_cons_zero, List.set_cons_succ, i64_w, i32_w]
                  rfl
                refine one_ (i := 5) (N := none) #[true, true, true, true, true, true, false] rfl rfl (by kernel_rfl) (by decide) (fun K hK => ?_)
                have hs84 : w83.cell? ⟨gb524, 0, none⟩ = some (.int .i64 0) := (blk_cell BK524.out 0).trans rfl
                have hfs84 := blk_frozen BK524.out 0
                have hns84_0 := NB522_524.out
                have hns84_1 := NB523_524.out
                have hms84_0 := NB524_522.out
                have hms84_1 := NB524_523.out
                have hs85 : w83.cell? ⟨gb524, 1, none⟩ = some (.int .i64 0) := (blk_cell BK524.out 1).trans rfl
                have hfs85 := blk_frozen BK524.out 1
                have hns85_0 := NB522_524.out
                have hns85_1 := NB523_524.out
                have hms85_0 := NB524_522.out
                have hms85_1 := NB524_523.out
                have hs86 : w83.cell? ⟨gb524, 2, none⟩ = some (.int .i64 0) := (blk_cell BK524.out 2).trans rfl
                have hfs86 := blk_frozen BK524.out 2
                have hns86_0 := NB522_524.out
                have hns86_1 := NB523_524.out
                have hms86_0 := NB524_522.out
                have hms86_1 := NB524_523.out
                have hs87 : w83.cell? ⟨gb524, 3, none⟩ = some (.int .i64 0) := (blk_cell BK524.out 3).trans rfl
                have hfs87 := blk_frozen BK524.out 3
                have hns87_0 := NB522_524.out
                have hns87_1 := NB523_524.out
                have hms87_0 := NB524_522.out
                have hms87_1 := NB524_523.out
                refine skip_ (w1 := ?_) (by rfl) rfl ?_ ?_
                rotate_left
                · go_simp
                  rfl
                refine hK.out _ _ ⟨((cell_far (p := ⟨gb524, _, none⟩) NB522_524.out _).trans (((cell_far (p := ⟨gb524, _, none⟩) NB522_524.out _).trans (((cell_far (p := ⟨gb524, _, none⟩) NB522_524.out _).trans (((cell_far (p := ⟨gb524, _, none⟩) NB522_524.out _).trans (hHeld.1)))))))), ((cell_far (p := ⟨gb524, _, none⟩) NB522_524.out _).trans (((cell_far (p := ⟨gb524, _, none⟩) NB522_524.out _).trans (((cell_far (p := ⟨gb524, _, none⟩) NB522_524.out _).trans (((cell_far (p := ⟨gb524, _, none⟩) NB522_524.out _).trans (hHeld.2.1)))))))), ((cell_far (p := ⟨gb524, _, none⟩) NB522_524.out _).trans (((cell_far (p := ⟨gb524, _, none⟩) NB522_524.out _).trans (((cell_far (p := ⟨gb524, _, none⟩) NB522_524.out _).trans (((cell_far (p := ⟨gb524, _, none⟩) NB522_524.out _).trans (hHeld.2.2.1)))))))), ((cell_far (p := ⟨gb524, _, none⟩) NB522_524.out _).trans (((cell_far (p := ⟨gb524, _, none⟩) NB522_524.out _).trans (((cell_far (p := ⟨gb524, _, none⟩) NB522_524.out _).trans (((cell_far (p := ⟨gb524, _, none⟩) NB522_524.out _).trans (hHeld.2.2.2))))))))⟩ (fun hHeld => ?_)
                clear hK K
                refine pure_ (i := 6) (N := some 5) (v := ?_) (a' := ?_) #[true, true, true, true, true, true, true] rfl rfl (by kernel_rfl) (fun _ _ _ h => h) (Or.inl ⟨by rfl, ?_⟩) ?_ ?_
                rotate_left
                · intro w'
                  go_simp
                  with_reducible rfl
                rotate_left
                · simp only [Act.put, List.setIfInBounds_toArray, List.set_cons_zero, List.set_cons_succ, i64_w, i32_w]
                  rfl
                refine done_ (by kernel_rfl) ?_
                try go_wp2
                refine bodyPost_ret (results_ct rfl _ _ gb524 26 #[.int .i64 x523000_64, .int .i64 a0_1, .int .i64 x523002_64, .int .i64 a0_3] (0, 0) _ rfl (by (with_reducible repeat (first | refine blk_drewN ?_ _ | refine blk_drew ?_ | refine blk_alloc ?_ _)); refine blk_put (cs := #[.int .i64 x523000_64, .int .i64 a0_1, .int .i64 x523002_64, .int .i64 0]) ?_ 3 _ rfl; (with_reducible repeat (first | refine blk_drewN ?_ _ | refine blk_drew ?_ | refine blk_alloc ?_ _)); refine blk_put (cs := #[.int .i64 x523000_64, .int .i64 a0_1, .int .i64 0, .int .i64 0]) ?_ 2 _ rfl; (with_reducible repeat (first | refine blk_drewN ?_ _ | refine blk_drew ?_ | refine blk_alloc ?_ _)); refine blk_put (cs := #[.int .i64 x523000_64, .int .i64 0, .int .i64 0, .int .i64 0]) ?_ 1 _ rfl; (with_reducible repeat (first | refine blk_drewN ?_ _ | refine blk_drew ?_ | refine blk_alloc ?_ _)); refine blk_put (cs := #[.int .i64 0, .int .i64 0, .int .i64 0, .int .i64 0]) ?_ 0 _ rfl; (with_reducible repeat (first | refine blk_drewN ?_ _ | refine blk_drew ?_ | refine blk_alloc ?_ _)); exact BK524.out) Try.underlying26 rfl (by kernel_rfl)) rfl ?_
                exact ⟨_, by first | rfl | (simp [errW_none, errW_some] <;> rfl) | (simp [*, errW_none, errW_some] <;> rfl), by (with_reducible repeat (first | apply Kd.R_alloc | apply Kd.R_drewN | apply Kd.R_drew)); exact Kd.R_mono (rf4 gb524 0 (Kd.R_types HO533.out BK524.out (by decide)) (fun _ hk => hk.2) (.int .i64 x523000_64) (.int .i64 a0_1) (.int .i64 x523002_64) (.int .i64 a0_3)) (fun _ hk => trivial), (kB HB.out)⟩
              · rw [if_neg c77] at H
                have c77b0 : (a1_0 == 8) = false := beq_eq_false_iff_ne.mpr c77
                have c77b1 : (a1_0 != 8) = true := bne_iff_ne.mpr c77
                replace H := Option.bind_eq_some_iff.mp H
                obtain ⟨t534, A880, H⟩ := H
                (try dsimp only at H)
                have A88 := Aside0.mk A880
                clear A880
                simp only [Option.some.injEq, Prod.mk.injEq] at H
                obtain ⟨rfl, rfl, rfl, rfl, rfl⟩ := H
                have hnb89 := NB523_522.out
                have hnc89 := NB522_523.out
                have hnb90 := NB523_524.out
                have hnc90 := NB524_523.out
                obtain ⟨hcz91_0, hcz91_1, hcz91_2, hcz91_3, hcz91_4, hcz91_5, hcz91_6, hcz91_7⟩ := cz8 BK523.out
                obtain ⟨hfz91_0, hfz91_1, hfz91_2, hfz91_3, hfz91_4, hfz91_5, hfz91_6, hfz91_7⟩ := fz8 BK523.out
                try go_wp2
                have n0_ := Aside0.mk (blk_drew BK522.out)
                have n1_ := Aside0.mk (blk_drew BK523.out)
                have n2_ := Aside0.mk (blk_drew BK524.out)
                have n3_ := Aside0.mk (below_drew1 HB.out)
                clear BK522
                clear BK523
                clear BK524
                clear HB
                have BK522 := n0_
                have BK523 := n1_
                have BK524 := n2_
                have HB := n3_
                clear n0_ n1_ n2_ n3_
                refine start_ (n := 7) (S := fun w' => w'.cell? ⟨gb522, 0, none⟩ = some (.int .i64 x523000_64) ∧ w'.cell? ⟨gb522, 1, none⟩ = some (.int .i64 a0_1) ∧ w'.cell? ⟨gb522, 2, none⟩ = some (.int .i64 x523002_64) ∧ w'.cell? ⟨gb522, 3, none⟩ = some (.int .i64 a0_3)) (ds := []) #[false, false, false, false, false, false, false] (by kernel_rfl) rfl rfl ⟨(blk_cell BK522.out 0).trans rfl, (blk_cell BK522.out 1).trans rfl, (blk_cell BK522.out 2).trans rfl, (blk_cell BK522.out 3).trans rfl⟩ (fun hHeld => ?_)
                generalize wc.drew = w92 at BK522 BK523 BK524 HB hHeld ⊢
                refine pure_ (i := 2) (N := some 62) (v := ?_) (a' := ?_) #[false, false, true, false, false, false, false] rfl rfl (by kernel_rfl) (fun _ _ _ h => h) (Or.inl ⟨by rfl, ?_⟩) ?_ ?_
                rotate_left
                · intro w'
                  go_simp
                  with_reducible rfl
                rotate_left
                · simp only [Act.put, List.setIfInBounds_toArray, List.set_cons_zero, List.set_cons_succ, i64_w, i32_w]
                  rfl
                refine take_ (i := 0) (N := some 60) (v := ?_) (a' := ?_) #[true, false, true, false, false, false, false] rfl rfl (by kernel_rfl) (fun _ _ _ h => h) (Or.inl ⟨by rfl, ?_⟩) hHeld ?_ ?_
                rotate_left
                · rintro w' ⟨s0, s1, s2, s3⟩
                  go_simp
                  with_reducible rfl
                rotate_left
                · simp only [Act.put, List.setIfInBounds_toArray, List.set_cons_zero, List.set_cons_succ, i64_w, i32_w]
                  rfl
                refine take_ (i := 1) (N := some 61) (v := ?_) (a' := ?_) #[true, true, true, false, false, false, false] rfl rfl (by kernel_rfl) (fun _ _ _ h => h) (Or.inl ⟨by rfl, ?_⟩) hHeld ?_ ?_
                rotate_left
                · rintro w' ⟨s0, s1, s2, s3⟩
                  go_simp
                  with_reducible rfl
                rotate_left
                · simp only [Act.put, List.setIfInBounds_toArray, List.set_cons_zero, List.set_cons_succ, i64_w, i32_w]
                  rfl
                refine take_ (i := 3) (N := some 63) (v := ?_) (a' := ?_) #[true, true, true, true, false, false, false] rfl rfl (by kernel_rfl) (fun _ _ _ h => h) (Or.inl ⟨by rfl, ?_⟩) hHeld ?_ ?_
                rotate_left
                · rintro w' ⟨s0, s1, s2, s3⟩
                  go_simp
                  with_reducible rfl
                rotate_left
                · simp only [Act.put, List.setIfInBounds_toArray, List.set_cons_zero, List.set_cons_succ, i64_w, i32_w]
                  rfl
                refine one_ (i := 4) (N := some 64) #[true, true, true, true, true, false, false] rfl rfl (by kernel_rfl) (by decide) (fun K hK => ?_)
                refine goes_ Try.func55 (by kernel_rfl) rfl #[.agg #[.int .i64 x523000_64, .int .i64 a0_1, .int .i64 x523002_64, .int .i64 a0_3], .int .i64 11, .int .i64 a0_3] (by rfl) rfl rfl (by (try simp only [List.map_toArray, List.map_cons, List.map_nil]); first | done | rfl | (simp only [List.length_drop, List.length_take]; rfl)) ?_
                with_reducible refine (standbyref32_toSource.calls x523000_64 a0_1 x523002_64 a0_3 11 a0_3 t534 _ A88.out).mono ?_
                rintro e w93 ⟨v535, rfl, ho0, hb⟩
                refine ⟨_, rfl, ?_⟩
                have n0_ := Aside0.mk (Kd.R_lower (Kd.R_newB ho0 (g := gb523) (o := .cells #[.int .i64 a1_0, .int .i64 a1_1, .int .i64 a1_2, .int .i64 a1_3, .int .i64 a1_4, .int .i64 a1_5, q1_6, q1_7] 53 (0, 0)) (by (with_reducible repeat (first | refine blk_drewN ?_ _ | refine blk_drew ?_ | refine blk_alloc ?_ _)); exact BK523.out)) (kZ HB.out))
                have n1_ := Aside0.mk (blk_below (g := gb522) (o := .cells #[.int .i64 x523000_64, .int .i64 a0_1, .int .i64 x523002_64, .int .i64 a0_3] 26 (0, 0)) (by (with_reducible repeat (first | refine blk_drewN ?_ _ | refine blk_drew ?_ | refine blk_alloc ?_ _)); exact BK522.out) hb)
                have n2_ := Aside0.mk (blk_below (g := gb523) (o := .cells #[.int .i64 a1_0, .int .i64 a1_1, .int .i64 a1_2, .int .i64 a1_3, .int .i64 a1_4, .int .i64 a1_5, q1_6, q1_7] 53 (0, 0)) (by (with_reducible repeat (first | refine blk_drewN ?_ _ | refine blk_drew ?_ | refine blk_alloc ?_ _)); exact BK523.out) hb)
                have n3_ := Aside0.mk (blk_below (g := gb524) (o := .cells #[.int .i64 0, .int .i64 0, .int .i64 0, .int .i64 0] 26 (0, 0)) (by (with_reducible repeat (first | refine blk_drewN ?_ _ | refine blk_drew ?_ | refine blk_alloc ?_ _)); exact BK524.out) hb)
                have n4_ := tB HB hb
                clear BK522
                clear BK523
                clear BK524
                clear HB
                have HO536 := n0_
                have BK522 := n1_
                have BK523 := n2_
                have BK524 := n3_
                have HB := n4_
                clear n0_ n1_ n2_ n3_ n4_
                (try clear hb)
                (try clear hb2)
                (try clear hk)
                (try clear hi)
                (try clear ho0)
                refine hK.out _ _ ⟨(blk_cell BK522.out 0).trans rfl, (blk_cell BK522.out 1).trans rfl, (blk_cell BK522.out 2).trans rfl, (blk_cell BK522.out 3).trans rfl⟩ (fun hHeld => ?_)
                clear hK K
                refine norm_ (a' := ?_) ?_ ?_
                rotate_left
                · show Act.put _ (some 64) _ = _
                  simp only [Act.put, List.setIfInBounds_toArray, List.set_cons_zero, List.set_cons_succ, i64_w, i32_w]
                  rfl
                refine one_ (i := 5) (N := none) #[true, true, true, true, true, true, false] rfl rfl (by kernel_rfl) (by decide) (fun K hK => ?_)
                have hs94 : w93.cell? ⟨gb524, 0, none⟩ = some (.int .i64 0) := (blk_cell BK524.out 0).trans rfl
                have hfs94 := blk_frozen BK524.out 0
                have hns94_0 := NB522_524.out
                have hns94_1 := NB523_524.out
                have hms94_0 := NB524_522.out
                have hms94_1 := NB524_523.out
                have hs95 : w93.cell? ⟨gb524, 1, none⟩ = some (.int .i64 0) := (blk_cell BK524.out 1).trans rfl
                have hfs95 := blk_frozen BK524.out 1
                have hns95_0 := NB522_524.out
                have hns95_1 := NB523_524.out
                have hms95_0 := NB524_522.out
                have hms95_1 := NB524_523.out
                have hs96 : w93.cell? ⟨gb524, 2, none⟩ = some (.int .i64 0) := (blk_cell BK524.out 2).trans rfl
                have hfs96 := blk_frozen BK524.out 2
                have hns96_0 := NB522_524.out
                have hns96_1 := NB523_524.out
                have hms96_0 := NB524_522.out
                have hms96_1 := NB524_523.out
                have hs97 : w93.cell? ⟨gb524, 3, none⟩ = some (.int .i64 0) := (blk_cell BK524.out 3).trans rfl
                have hfs97 := blk_frozen BK524.out 3
                have hns97_0 := NB522_524.out
                have hns97_1 := NB523_524.out
                have hms97_0 := NB524_522.out
                have hms97_1 := NB524_523.out
                refine skip_ (w1 := ?_) (by rfl) rfl ?_ ?_
                rotate_left
                · go_simp
                  rfl
                refine hK.out _ _ ⟨((cell_far (p := ⟨gb524, _, none⟩) NB522_524.out _).trans (((cell_far (p := ⟨gb524, _, none⟩) NB522_524.out _).trans (((cell_far (p := ⟨gb524, _, none⟩) NB522_524.out _).trans (((cell_far (p := ⟨gb524, _, none⟩) NB522_524.out _).trans (hHeld.1)))))))), ((cell_far (p := ⟨gb524, _, none⟩) NB522_524.out _).trans (((cell_far (p := ⟨gb524, _, none⟩) NB522_524.out _).trans (((cell_far (p := ⟨gb524, _, none⟩) NB522_524.out _).trans (((cell_far (p := ⟨gb524, _, none⟩) NB522_524.out _).trans (hHeld.2.1)))))))), ((cell_far (p := ⟨gb524, _, none⟩) NB522_524.out _).trans (((cell_far (p := ⟨gb524, _, none⟩) NB522_524.out _).trans (((cell_far (p := ⟨gb524, _, none⟩) NB522_524.out _).trans (((cell_far (p := ⟨gb524, _, none⟩) NB522_524.out _).trans (hHeld.2.2.1)))))))), ((cell_far (p := ⟨gb524, _, none⟩) NB522_524.out _).trans (((cell_far (p := ⟨gb524, _, none⟩) NB522_524.out _).trans (((cell_far (p := ⟨gb524, _, none⟩) NB522_524.out _).trans (((cell_far (p := ⟨gb524, _, none⟩) NB522_524.out _).trans (hHeld.2.2.2))))))))⟩ (fun hHeld => ?_)
                clear hK K
                refine pure_ (i := 6) (N := some 5) (v := ?_) (a' := ?_) #[true, true, true, true, true, true, true] rfl rfl (by kernel_rfl) (fun _ _ _ h => h) (Or.inl ⟨by rfl, ?_⟩) ?_ ?_
                rotate_left
                · intro w'
                  go_simp
                  with_reducible rfl
                rotate_left
                · simp only [Act.put, List.setIfInBounds_toArray, List.set_cons_zero, List.set_cons_succ, i64_w, i32_w]
                  rfl
                refine done_ (by kernel_rfl) ?_
                try go_wp2
                refine bodyPost_ret (results_ct rfl _ _ gb524 26 #[.int .i64 x523000_64, .int .i64 a0_1, .int .i64 x523002_64, .int .i64 a0_3] (0, 0) _ rfl (by (with_reducible repeat (first | refine blk_drewN ?_ _ | refine blk_drew ?_ | refine blk_alloc ?_ _)); refine blk_put (cs := #[.int .i64 x523000_64, .int .i64 a0_1, .int .i64 x523002_64, .int .i64 0]) ?_ 3 _ rfl; (with_reducible repeat (first | refine blk_drewN ?_ _ | refine blk_drew ?_ | refine blk_alloc ?_ _)); refine blk_put (cs := #[.int .i64 x523000_64, .int .i64 a0_1, .int .i64 0, .int .i64 0]) ?_ 2 _ rfl; (with_reducible repeat (first | refine blk_drewN ?_ _ | refine blk_drew ?_ | refine blk_alloc ?_ _)); refine blk_put (cs := #[.int .i64 x523000_64, .int .i64 0, .int .i64 0, .int .i64 0]) ?_ 1 _ rfl; (with_reducible repeat (first | refine blk_drewN ?_ _ | refine blk_drew ?_ | refine blk_alloc ?_ _)); refine blk_put (cs := #[.int .i64 0, .int .i64 0, .int .i64 0, .int .i64 0]) ?_ 0 _ rfl; (with_reducible repeat (first | refine blk_drewN ?_ _ | refine blk_drew ?_ | refine blk_alloc ?_ _)); exact BK524.out) Try.underlying26 rfl (by kernel_rfl)) rfl ?_
                exact ⟨_, by first | rfl | (simp [errW_none, errW_some] <;> rfl) | (simp [*, errW_none, errW_some] <;> rfl), by (with_reducible repeat (first | apply Kd.R_alloc | apply Kd.R_drewN | apply Kd.R_drew)); exact Kd.R_mono (rf4 gb524 0 (Kd.R_types HO536.out BK524.out (by decide)) (fun _ hk => hk.2) (.int .i64 x523000_64) (.int .i64 a0_1) (.int .i64 x523002_64) (.int .i64 a0_3)) (fun _ hk => trivial), (kB HB.out)⟩
end Go.Proofs.Ytedoloapddmanaa.PB
