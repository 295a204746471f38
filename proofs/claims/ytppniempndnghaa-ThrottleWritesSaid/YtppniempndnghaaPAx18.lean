-- Written by a program of this session (wip/tools) over the kit's print.
import Derived.Test.YtppniempndnghaaPAx0
import Derived.Test.YtppniempndnghaaPAx15
import Derived.Test.YtppniempndnghaaPAx17
namespace Go.Proofs.Ytppniempndnghaa.PA
open Go.RowKit Go.Proofs.YtppniempndnghaaW.PrintWords Go.Proofs.YtppniempndnghaaW.PrintLast Go.Proofs.YtppniempndnghaaW.PrintMore
attribute [local go_sem] max2_int min2_int max_two min_two max_three min_three max_four min_four   -- for this text's walks alone
set_option linter.unusedVariables false
set_option linter.unusedSimpArgs false

/-! ### standbyref33_Write: function 17 -/
mutual
def standbyref33_Write.j0 : Nat → Int → Int → Bool → Int → Int → Int → Int → List (S71) → Option (Int × Int × Int × Int × (List (S71)) × Int × Int)
  | 0, _, _, _, _, _, _, _, _ => none
  | k + 1, x1, x2, x28, x256000, x256001, x256002, x256003, x256004 => if x28 = true then (some (0, 0, 0, 0, ([] : List (S71)), 0, 24)) else (if x2 < 1 then (standbyref33_Write.j1 k x1 x2 true x256000 x256001 x256002 x256003 x256004) else (standbyref33_Write.j1 k x1 x2 (decide (x2 > 4096)) x256000 x256001 x256002 x256003 x256004))
def standbyref33_Write.j1 : Nat → Int → Int → Bool → Int → Int → Int → Int → List (S71) → Option (Int × Int × Int × Int × (List (S71)) × Int × Int)
  | 0, _, _, _, _, _, _, _, _ => none
  | k + 1, x1, x2, x35, x256000, x256001, x256002, x256003, x256004 => if x35 = true then (some (0, 0, 0, 0, ([] : List (S71)), 0, 2)) else (if x2 > (wrap64 (x256001 * x256000)) then (some (0, 0, 0, 0, ([] : List (S71)), 0, 21)) else ((standbyref33_tidy.f k x256004 0).bind fun t259 => (if (wrap64 (x256003 + x2)) > (wrap64 (x256001 * x256000)) then (if x256001 = 0 then (none) else (some (x256000, x256001, x1, x256003, t259, wrap64 ((wrap64 (Int.tdiv (wrap64 ((wrap64 ((wrap64 (x256003 + x2)) + x256001)) - 1)) x256001)) - x256000), 0))) else ((standbyref33_Total.f x256000 x256001 x256002 x256003 x256004).bind fun t262 => (if (wrap64 (t262 + x2)) > 1073741824 then (some (0, 0, 0, 0, ([] : List (S71)), 0, 11)) else ((standbyref33_Total.f x256000 x256001 x256002 x256003 x256004).bind fun t263 => (if (t259.length : Int) > 0 then (if 0 ≤ (wrap64 ((t259.length : Int) - 1)) then (if (wrap64 ((t259.length : Int) - 1)) < (t259.length : Int) then (standbyref33_Write.j2 k x1 x2 (wrap64 (t262 + x2)) (wrap64 (t263 - x256003)) (t259.length : Int) (((rd_T71 t259 (wrap64 ((t259.length : Int) - 1))).f0) == x1) x256000 x256001 x256002 x256003 x256004 x256000 x256001 x1 x256003 t259) else (none)) else (none)) else (standbyref33_Write.j2 k x1 x2 (wrap64 (t262 + x2)) (wrap64 (t263 - x256003)) (t259.length : Int) false x256000 x256001 x256002 x256003 x256004 x256000 x256001 x1 x256003 t259))))))))
def standbyref33_Write.j2 : Nat → Int → Int → Int → Int → Int → Bool → Int → Int → Int → Int → List (S71) → Int → Int → Int → Int → List (S71) → Option (Int × Int × Int × Int × (List (S71)) × Int × Int)
  | 0, _, _, _, _, _, _, _, _, _, _, _, _, _, _, _, _ => none
  | k + 1, x1, x2, x12, x13, x14, x102, x256000, x256001, x256002, x256003, x256004, x259000, x259001, x259002, x259003, x259004 => if x102 = true then (if 0 ≤ (wrap64 (x14 - 1)) then (if (wrap64 (x14 - 1)) < (x259004.length : Int) then (if (x259004.length : Int) > 4096 then (some (0, 0, 0, 0, ([] : List (S71)), 0, 11)) else (some (x259000, x259001, x259002, wrap64 (x256003 + x2), (x259004.set ((wrap64 (x14 - 1)) : Int).toNat (⟨(rd_T71 x259004 (wrap64 (x14 - 1))).f0, x12⟩ : S71)), 0, 0))) else (none)) else (none)) else (if x259004.length < 8796093022208 then ((standbyref33_tidy.f k (x259004 ++ [(⟨x1, x12⟩ : S71)]) x13).bind fun t269 => (if (t269.length : Int) > 4096 then (some (0, 0, 0, 0, ([] : List (S71)), 0, 11)) else (some (x259000, x259001, x259002, wrap64 (x256003 + x2), t269, 0, 0)))) else (none))
end
def standbyref33_Write.f (k : Nat) (a0_0 : Int) (a0_1 : Int) (a0_2 : Int) (a0_3 : Int) (l0_4 : List (S71)) (a1 : Int) (a2 : Int) : Option (Int × Int × Int × Int × (List (S71)) × Int × Int) := (standbyref33_Check.f k a0_0 a0_1 a0_2 a0_3 l0_4).bind fun t257 => (if t257 = 0 then (if a1 < a0_2 then (standbyref33_Write.j0 k a1 a2 true a0_0 a0_1 a0_2 a0_3 l0_4) else (standbyref33_Write.j0 k a1 a2 (decide (a1 > 1073741824)) a0_0 a0_1 a0_2 a0_3 l0_4)) else (some (0, 0, 0, 0, ([] : List (S71)), 0, t257)))
theorem standbyref33_Write.mono_l : ∀ k, (∀ y0 y1 y2 y3 y4 y5 y6 y7, LeO (standbyref33_Write.j0 k y0 y1 y2 y3 y4 y5 y6 y7) (standbyref33_Write.j0 (k + 1) y0 y1 y2 y3 y4 y5 y6 y7)) ∧ (∀ y0 y1 y2 y3 y4 y5 y6 y7, LeO (standbyref33_Write.j1 k y0 y1 y2 y3 y4 y5 y6 y7) (standbyref33_Write.j1 (k + 1) y0 y1 y2 y3 y4 y5 y6 y7)) ∧ (∀ y0 y1 y2 y3 y4 y5 y6 y7 y8 y9 y10 y11 y12 y13 y14 y15, LeO (standbyref33_Write.j2 k y0 y1 y2 y3 y4 y5 y6 y7 y8 y9 y10 y11 y12 y13 y14 y15) (standbyref33_Write.j2 (k + 1) y0 y1 y2 y3 y4 y5 y6 y7 y8 y9 y10 y11 y12 y13 y14 y15))
  | 0 => ⟨fun _ _ _ _ _ _ _ _ r h => by simp [standbyref33_Write.j0] at h, fun _ _ _ _ _ _ _ _ r h => by simp [standbyref33_Write.j1] at h, fun _ _ _ _ _ _ _ _ _ _ _ _ _ _ _ _ r h => by simp [standbyref33_Write.j2] at h⟩
  | k + 1 => by
    obtain ⟨ih0, ih1, ih2⟩ := standbyref33_Write.mono_l k
    refine ⟨?_, ?_, ?_⟩
    · intro y0 y1 y2 y3 y4 y5 y6 y7
      unfold standbyref33_Write.j0
      repeat' first
      | (with_reducible exact ih0 _ _ _ _ _ _ _ _)
      | (with_reducible exact ih1 _ _ _ _ _ _ _ _)
      | (with_reducible exact ih2 _ _ _ _ _ _ _ _ _ _ _ _ _ _ _ _)
      | (with_reducible exact standbyref33_Check.mono _ _ _ _ _ _)
      | (with_reducible exact standbyref33_tidy.mono _ _ _)
      | (with_reducible exact LeO.refl _)
      | (with_reducible exact LeO.none _)
      | (with_reducible refine LeO.ite ?_ ?_)
      | (with_reducible refine LeO.bind ?_ (fun _ => ?_))
      | exact ih0 _ _ _ _ _ _ _ _
      | exact ih1 _ _ _ _ _ _ _ _
      | exact ih2 _ _ _ _ _ _ _ _ _ _ _ _ _ _ _ _
      | exact standbyref33_Check.mono _ _ _ _ _ _
      | exact standbyref33_tidy.mono _ _ _
      | exact LeO.none _
      | refine LeO.ite ?_ ?_
      | refine LeO.bind ?_ (fun _ => ?_)
    · intro y0 y1 y2 y3 y4 y5 y6 y7
      unfold standbyref33_Write.j1
      repeat' first
      | (with_reducible exact ih0 _ _ _ _ _ _ _ _)
      | (with_reducible exact ih1 _ _ _ _ _ _ _ _)
      | (with_reducible exact ih2 _ _ _ _ _ _ _ _ _ _ _ _ _ _ _ _)
      | (with_reducible exact standbyref33_Check.mono _ _ _ _ _ _)
      | (with_reducible exact standbyref33_tidy.mono _ _ _)
      | (with_reducible exact LeO.refl _)
      | (with_reducible exact LeO.none _)
      | (with_reducible refine LeO.ite ?_ ?_)
      | (with_reducible refine LeO.bind ?_ (fun _ => ?_))
      | exact ih0 _ _ _ _ _ _ _ _
      | exact ih1 _ _ _ _ _ _ _ _
      | exact ih2 _ _ _ _ _ _ _ _ _ _ _ _ _ _ _ _
      | exact standbyref33_Check.mono _ _ _ _ _ _
      | exact standbyref33_tidy.mono _ _ _
      | exact LeO.none _
      | refine LeO.ite ?_ ?_
      | refine LeO.bind ?_ (fun _ => ?_)
    · intro y0 y1 y2 y3 y4 y5 y6 y7 y8 y9 y10 y11 y12 y13 y14 y15
      unfold standbyref33_Write.j2
      repeat' first
      | (with_reducible exact ih0 _ _ _ _ _ _ _ _)
      | (with_reducible exact ih1 _ _ _ _ _ _ _ _)
      | (with_reducible exact ih2 _ _ _ _ _ _ _ _ _ _ _ _ _ _ _ _)
      | (with_reducible exact standbyref33_Check.mono _ _ _ _ _ _)
      | (with_reducible exact standbyref33_tidy.mono _ _ _)
      | (with_reducible exact LeO.refl _)
      | (with_reducible exact LeO.none _)
      | (with_reducible refine LeO.ite ?_ ?_)
      | (with_reducible refine LeO.bind ?_ (fun _ => ?_))
      | exact ih0 _ _ _ _ _ _ _ _
      | exact ih1 _ _ _ _ _ _ _ _
      | exact ih2 _ _ _ _ _ _ _ _ _ _ _ _ _ _ _ _
      | exact standbyref33_Check.mono _ _ _ _ _ _
      | exact standbyref33_tidy.mono _ _ _
      | exact LeO.none _
      | refine LeO.ite ?_ ?_
      | refine LeO.bind ?_ (fun _ => ?_)
theorem standbyref33_Write.mono : ∀ a0 a1 a2 a3 a4 a5 a6 k, LeO (standbyref33_Write.f k a0 a1 a2 a3 a4 a5 a6) (standbyref33_Write.f (k + 1) a0 a1 a2 a3 a4 a5 a6) := by
  intro a0 a1 a2 a3 a4 a5 a6 k
  obtain ⟨ih0, ih1, ih2⟩ := standbyref33_Write.mono_l k
  unfold standbyref33_Write.f
  repeat' first
      | (with_reducible exact ih0 _ _ _ _ _ _ _ _)
      | (with_reducible exact ih1 _ _ _ _ _ _ _ _)
      | (with_reducible exact ih2 _ _ _ _ _ _ _ _ _ _ _ _ _ _ _ _)
      | (with_reducible exact standbyref33_Check.mono _ _ _ _ _ _)
      | (with_reducible exact standbyref33_tidy.mono _ _ _)
      | (with_reducible exact LeO.refl _)
      | (with_reducible exact LeO.none _)
      | (with_reducible refine LeO.ite ?_ ?_)
      | (with_reducible refine LeO.bind ?_ (fun _ => ?_))
      | exact ih0 _ _ _ _ _ _ _ _
      | exact ih1 _ _ _ _ _ _ _ _
      | exact ih2 _ _ _ _ _ _ _ _ _ _ _ _ _ _ _ _
      | exact standbyref33_Check.mono _ _ _ _ _ _
      | exact standbyref33_tidy.mono _ _ _
      | exact LeO.none _
      | refine LeO.ite ?_ ?_
      | refine LeO.bind ?_ (fun _ => ?_)
def standbyref33_Write.T15 : Bool × List (List Nat × List Nat) := (true, [([], []), ([], []), ([], []), ([2], [2]), ([1, 3], [1, 3]), ([4], [4]), ([], []), ([6], [6]), ([5, 7], [5, 7]), ([], []), ([9], [9]), ([8, 10], [8, 10]), ([0, 0], [0]), ([11, 12, 0, 1, 2, 3, 4, 5, 6, 7, 8, 9, 10, 11, 12], [11]), ([13, 0, 1, 2, 3, 4, 5, 6, 7, 8, 9, 10, 11, 12, 13], [])])
def standbyref33_Write.B15 : List Nat := [0, 0, 0, 4, 14, 30, 0, 64, 254, 0, 512, 2046, 1, 8191, 16383]
theorem standbyref33_Write.tab15 : rtab .any (opsOf Try.f17 15) = standbyref33_Write.T15 := by kernel_rfl
theorem standbyref33_Write.bits15 : waitsOk standbyref33_Write.T15.2 standbyref33_Write.B15 = true := by kernel_rfl
set_option maxHeartbeats 8000000 in
set_option maxRecDepth 100000 in
theorem standbyref33_Write.calls (k : Nat) (a0_0 : Int) (a0_1 : Int) (a0_2 : Int) (a0_3 : Int) (A0_4 : Option Addr) (c0_4 : Nat) (l0_4 : List (S71)) (a1 : Int) (a2 : Int) (r1 : Int) (r2 : Int) (r3 : Int) (r4 : Int) (r5 : List (S71)) (r6 : Int) (r7 : Int) (w : World) (hr0_4 : Kd.C k71 w A0_4 l0_4.length l0_4) (hc0_4 : l0_4.length ≤ c0_4) (h : standbyref33_Write.f k a0_0 a0_1 a0_2 a0_3 l0_4 a1 a2 = some (r1, r2, r3, r4, r5, r6, r7)) :
    Calls Try.prog 17 #[.agg #[.int .i64 a0_0, .int .i64 a0_1, .int .i64 a0_2, .int .i64 a0_3, .slice A0_4 l0_4.length c0_4], .int .i64 a1, .int .i64 a2] w fun e w' => ∃ v4_ : Value, e = .returned (.tuple #[.agg #[.int .i64 r1, .int .i64 r2, .int .i64 r3, .int .i64 r4, v4_], .int .i64 r6, .int .i64 r7]) ∧ Kd.R k71 71 w' w.heap.size (fun _ => True) v4_ r5 ∧ Below w.heap.size w w' := by
  have hu24 := Try.underlying24
  have hu71 := Try.underlying71
  have HR0_4 := Aside0.mk hr0_4
  have HC0_4 := Aside0.mk hc0_4
  clear hr0_4 hc0_4
  have HB := Aside0.mk (Below.refl w.heap.size w)
  have H : ((standbyref33_Check.f k a0_0 a0_1 a0_2 a0_3 l0_4).bind fun t257 => (if t257 = 0 then (if a1 < a0_2 then (standbyref33_Write.j0 k a1 a2 true a0_0 a0_1 a0_2 a0_3 l0_4) else (standbyref33_Write.j0 k a1 a2 (decide (a1 > 1073741824)) a0_0 a0_1 a0_2 a0_3 l0_4)) else (some (0, 0, 0, 0, ([] : List (S71)), 0, t257)))) = some (r1, r2, r3, r4, r5, r6, r7) := h
  clear h
  replace H := Option.bind_eq_some_iff.mp H
  obtain ⟨t257, A40, H⟩ := H
  replace H : (if t257 = 0 then (if a1 < a0_2 then (standbyref33_Write.j0 k a1 a2 true a0_0 a0_1 a0_2 a0_3 l0_4) else (standbyref33_Write.j0 k a1 a2 (decide (a1 > 1073741824)) a0_0 a0_1 a0_2 a0_3 l0_4)) else (some (0, 0, 0, 0, ([] : List (S71)), 0, t257))) = some (r1, r2, r3, r4, r5, r6, r7) := H
  have A4 := Aside0.mk A40
  clear A40
  by_cases c5 : t257 = 0
  · rw [if_pos c5] at H
    have c5b0 : (t257 == 0) = true := beq_iff_eq.mpr c5
    have c5b1 : (t257 != 0) = false := bne_eq_false_iff_eq.mpr c5
    clear c5
    have HC6 := Aside0.mk H
    clear H
    go_enter Try.func17, Try.ntmps17
    go_upto_region 4 with (first | ((with_reducible refine gate_dst (N := 3) rfl ?_); refine box_event ?hg (N := 3) ?hd (cs := #[.int .i64 a0_0, .int .i64 a0_1, .int .i64 a0_2, .int .i64 a0_3, .slice A0_4 l0_4.length c0_4]) (t := 24) ?hr ?_; (case hd => rfl); (case hg => rfl); (case hr => first | (go_simp; done) | (go_simp; rfl)); intro gb255 hg w7 hbox hb; have n0_ := Aside0.mk (below_step (by repeat (first | (with_reducible first | exact HB.out | apply below_alloc | apply pw_below_drewN | apply below_drew1) | exact HB.out)) hb); have n1_ := Aside0.mk (hbox); have n2_ := Aside0.mk ((by rw [hg]; exact (below_size (by repeat (first | (with_reducible first | exact HB.out | apply below_alloc | apply pw_below_drewN | apply below_drew1) | exact HB.out))) : w.heap.size ≤ gb255)); have n3_ := Aside0.mk ((by rw [hg]; exact (below_size (by repeat (first | (with_reducible first | exact HB.out | apply below_alloc | apply pw_below_drewN | apply below_drew1) | exact HB.out))) : w.heap.size ≤ gb255)); clear HB; have HB := n0_; have BK255 := n1_; have GW255 := n2_; have GE255 := n3_; clear n0_ n1_ n2_ n3_; clear hb hbox hg) | ((with_reducible refine gate_dst (N := 6) rfl ?_); refine box_event ?hg (N := 6) ?hd (cs := #[.int .i64 0, .int .i64 0, .int .i64 0, .int .i64 0, .slice none 0 0]) (t := 24) ?hr ?_; (case hd => rfl); (case hg => rfl); (case hr => first | (go_simp; done) | (go_simp; rfl)); intro gb256 hg w8 hbox hb; have n0_ := Aside0.mk (blk_below (g := gb255) (o := .cells #[.int .i64 a0_0, .int .i64 a0_1, .int .i64 a0_2, .int .i64 a0_3, .slice A0_4 l0_4.length c0_4] 24 (0, 0)) (by (with_reducible repeat (first | refine blk_drewN ?_ _ | refine blk_drew ?_ | refine blk_alloc ?_ _)); exact BK255.out) hb); have n1_ := Aside0.mk (below_step (by repeat (first | (with_reducible first | exact HB.out | apply below_alloc | apply pw_below_drewN | apply below_drew1 | refine below_set ?_ GE255.out) | exact HB.out)) hb); have n2_ := Aside0.mk (hbox); have n3_ := Aside0.mk ((by rw [hg]; exact (below_size (by repeat (first | (with_reducible first | exact HB.out | apply below_alloc | apply pw_below_drewN | apply below_drew1 | refine below_set ?_ GE255.out) | exact HB.out))) : w.heap.size ≤ gb256)); have n4_ := Aside0.mk ((by rw [hg]; exact (below_size (by repeat (first | (with_reducible first | exact HB.out | apply below_alloc | apply pw_below_drewN | apply below_drew1 | refine below_set ?_ GE255.out) | exact HB.out))) : w.heap.size ≤ gb256)); have n5_ := Aside0.mk ((by rw [hg]; exact Nat.ne_of_lt (blk_lt (g := gb255) (o := .cells #[.int .i64 a0_0, .int .i64 a0_1, .int .i64 a0_2, .int .i64 a0_3, .slice A0_4 l0_4.length c0_4] 24 (0, 0)) (by (with_reducible repeat (first | refine blk_drewN ?_ _ | refine blk_drew ?_ | refine blk_alloc ?_ _)); exact BK255.out)) : gb255 ≠ gb256)); have n6_ := Aside0.mk ((by rw [hg]; exact Nat.ne_of_gt (blk_lt (g := gb255) (o := .cells #[.int .i64 a0_0, .int .i64 a0_1, .int .i64 a0_2, .int .i64 a0_3, .slice A0_4 l0_4.length c0_4] 24 (0, 0)) (by (with_reducible repeat (first | refine blk_drewN ?_ _ | refine blk_drew ?_ | refine blk_alloc ?_ _)); exact BK255.out)) : gb256 ≠ gb255)); clear BK255; clear HB; have BK255 := n0_; have HB := n1_; have BK256 := n2_; have GW256 := n3_; have GE256 := n4_; have NB255_256 := n5_; have NB256_255 := n6_; clear n0_ n1_ n2_ n3_ n4_ n5_ n6_; clear hb hbox hg; have hnb9 := NB255_256.out; have hnc9 := NB256_255.out; have hcz10_0 : w8.cell? ⟨gb255, 0, none⟩ = some (.int .i64 a0_0) := (blk_cell BK255.out 0).trans rfl; have hcz10_1 : w8.cell? ⟨gb255, 1, none⟩ = some (.int .i64 a0_1) := (blk_cell BK255.out 1).trans rfl; have hcz10_2 : w8.cell? ⟨gb255, 2, none⟩ = some (.int .i64 a0_2) := (blk_cell BK255.out 2).trans rfl; have hcz10_3 : w8.cell? ⟨gb255, 3, none⟩ = some (.int .i64 a0_3) := (blk_cell BK255.out 3).trans rfl; have hcz10_4 : w8.cell? ⟨gb255, 4, none⟩ = some (.slice A0_4 l0_4.length c0_4) := (blk_cell BK255.out 4).trans rfl; have hfz10_0 := blk_frozen BK255.out 0; have hfz10_1 := blk_frozen BK255.out 1; have hfz10_2 := blk_frozen BK255.out 2; have hfz10_3 := blk_frozen BK255.out 3; have hfz10_4 := blk_frozen BK255.out 4) | ((with_reducible refine gate_callee (f := 15) rfl ?_); refine goesL_ (some 16) rfl rfl Try.func15 (by kernel_rfl) rfl #[.agg #[.int .i64 a0_0, .int .i64 a0_1, .int .i64 a0_2, .int .i64 a0_3, .slice A0_4 l0_4.length c0_4]] rfl (by (try simp only [List.map_toArray, List.map_cons, List.map_nil]); first | done | rfl | (simp only [List.length_drop, List.length_take]; rfl)) ?_; (with_reducible refine (standbyref33_Check.calls k a0_0 a0_1 a0_2 a0_3 _ _ l0_4 t257 _ ?side1 ?side2 A4.out).mono ?_); (case side1 => repeat (first | exact (Kd.C_below HR0_4.out HB.out) | (with_reducible refine Kd.C_alloc ?_ _) | (with_reducible refine Kd.C_drewN ?_ _) | (with_reducible refine Kd.C_drew ?_))); (case side2 => exact HC0_4.out); rintro e w11 ⟨rfl, hb⟩; refine ⟨_, rfl, ?_⟩; have n0_ := Aside0.mk (blk_below (g := gb255) (o := .cells #[.int .i64 a0_0, .int .i64 a0_1, .int .i64 a0_2, .int .i64 a0_3, .slice A0_4 l0_4.length c0_4] 24 (0, 0)) (by (with_reducible repeat (first | refine blk_drewN ?_ _ | refine blk_drew ?_ | refine blk_alloc ?_ _)); exact BK255.out) hb); have n1_ := Aside0.mk (blk_below (g := gb256) (o := .cells #[.int .i64 0, .int .i64 0, .int .i64 0, .int .i64 0, .slice none 0 0] 24 (0, 0)) (by (with_reducible repeat (first | refine blk_drewN ?_ _ | refine blk_drew ?_ | refine blk_alloc ?_ _)); exact BK256.out) hb); have n2_ := Aside0.mk (below_step (by repeat (first | (with_reducible first | exact HB.out | apply below_alloc | apply pw_below_drewN | apply below_drew1 | refine below_set ?_ GE255.out | refine below_set ?_ GE256.out) | exact HB.out)) hb); clear BK255; clear BK256; clear HB; have BK255 := n0_; have BK256 := n1_; have HB := n2_; clear n0_ n1_ n2_; (try clear hb); (try clear hb2); (try clear hk); (try clear hi)))
    (try simp only [Act.put, List.setIfInBounds_toArray, List.set_cons_zero, List.set_cons_succ])
    go_cut [28] (fun v28 wc => ∃ (kq : Nat) (x28_5 : Bool), v28 = .bool x28_5 ∧ Aside0 (standbyref33_Write.j0 kq a1 a2 x28_5 a0_0 a0_1 a0_2 a0_3 l0_4 = some (r1, r2, r3, r4, r5, r6, r7)) ∧ Aside0 (kq ≤ k) ∧ Aside0 (wc.heap[gb255]? = some (.cells #[.int .i64 a0_0, .int .i64 a0_1, .int .i64 a0_2, .int .i64 a0_3, (.slice A0_4 l0_4.length c0_4)] 24 (0, 0))) ∧ Aside0 (wc.heap[gb256]? = some (.cells #[.int .i64 0, .int .i64 0, .int .i64 0, .int .i64 0, (.slice none 0 0)] 24 (0, 0))) ∧ Aside0 (Below w.heap.size w wc))
    case first =>
      have H := HC6.out
      clear HC6
      by_cases c12 : a1 < a0_2
      · rw [if_pos c12] at H
        have c12b0 : decide (a1 < a0_2) = true := decide_eq_true c12
        clear c12
        (first | rw [c12b0] | (simp only [i64_w, i32_w]; rw [c12b0]) | skip)
        have H' := Aside0.mk H
        clear H
        have hnb13 := NB255_256.out
        have hnc13 := NB256_255.out
        have hcz14_0 : w11.cell? ⟨gb255, 0, none⟩ = some (.int .i64 a0_0) := (blk_cell BK255.out 0).trans rfl
        have hcz14_1 : w11.cell? ⟨gb255, 1, none⟩ = some (.int .i64 a0_1) := (blk_cell BK255.out 1).trans rfl
        have hcz14_2 : w11.cell? ⟨gb255, 2, none⟩ = some (.int .i64 a0_2) := (blk_cell BK255.out 2).trans rfl
        have hcz14_3 : w11.cell? ⟨gb255, 3, none⟩ = some (.int .i64 a0_3) := (blk_cell BK255.out 3).trans rfl
        have hcz14_4 : w11.cell? ⟨gb255, 4, none⟩ = some (.slice A0_4 l0_4.length c0_4) := (blk_cell BK255.out 4).trans rfl
        have hfz14_0 := blk_frozen BK255.out 0
        have hfz14_1 := blk_frozen BK255.out 1
        have hfz14_2 := blk_frozen BK255.out 2
        have hfz14_3 := blk_frozen BK255.out 3
        have hfz14_4 := blk_frozen BK255.out 4
        go_wp2
        go_meet
        case rel => exact ⟨_, (true), (by first | rfl | (simp; done) | (simp [*]; done)), H', ⟨by first | omega | exact Nat.le_refl _⟩, ⟨by (with_reducible repeat (first | refine blk_drewN ?_ _ | refine blk_drew ?_ | refine blk_alloc ?_ _)); exact BK255.out⟩, ⟨by (with_reducible repeat (first | refine blk_drewN ?_ _ | refine blk_drew ?_ | refine blk_alloc ?_ _)); exact BK256.out⟩, ⟨by repeat (first | (with_reducible first | exact HB.out | apply below_alloc | apply pw_below_drewN | apply below_drew1 | refine below_set ?_ GE255.out | refine below_set ?_ GE256.out) | exact HB.out)⟩⟩
      · rw [if_neg c12] at H
        have c12b0 : decide (a1 < a0_2) = false := decide_eq_false c12
        clear c12
        (first | rw [c12b0] | (simp only [i64_w, i32_w]; rw [c12b0]) | skip)
        have H' := Aside0.mk H
        clear H
        have hnb15 := NB255_256.out
        have hnc15 := NB256_255.out
        have hcz16_0 : w11.cell? ⟨gb255, 0, none⟩ = some (.int .i64 a0_0) := (blk_cell BK255.out 0).trans rfl
        have hcz16_1 : w11.cell? ⟨gb255, 1, none⟩ = some (.int .i64 a0_1) := (blk_cell BK255.out 1).trans rfl
        have hcz16_2 : w11.cell? ⟨gb255, 2, none⟩ = some (.int .i64 a0_2) := (blk_cell BK255.out 2).trans rfl
        have hcz16_3 : w11.cell? ⟨gb255, 3, none⟩ = some (.int .i64 a0_3) := (blk_cell BK255.out 3).trans rfl
        have hcz16_4 : w11.cell? ⟨gb255, 4, none⟩ = some (.slice A0_4 l0_4.length c0_4) := (blk_cell BK255.out 4).trans rfl
        have hfz16_0 := blk_frozen BK255.out 0
        have hfz16_1 := blk_frozen BK255.out 1
        have hfz16_2 := blk_frozen BK255.out 2
        have hfz16_3 := blk_frozen BK255.out 3
        have hfz16_4 := blk_frozen BK255.out 4
        go_wp2
        go_meet
        case rel => exact ⟨_, (decide (a1 > 1073741824)), (by first | rfl | (simp; done) | (simp [*]; done)), H', ⟨by first | omega | exact Nat.le_refl _⟩, ⟨by (with_reducible repeat (first | refine blk_drewN ?_ _ | refine blk_drew ?_ | refine blk_alloc ?_ _)); exact BK255.out⟩, ⟨by (with_reducible repeat (first | refine blk_drewN ?_ _ | refine blk_drew ?_ | refine blk_alloc ?_ _)); exact BK256.out⟩, ⟨by repeat (first | (with_reducible first | exact HB.out | apply below_alloc | apply pw_below_drewN | apply below_drew1 | refine below_set ?_ GE255.out | refine below_set ?_ GE256.out) | exact HB.out)⟩⟩
    case rest =>
      clear HC6
      try clear c1
      try clear p2
      try clear c5
      try clear c5b0
      try clear c5b1
      try clear c9
      try clear c12
      try clear c12b0
      try clear c13
      try clear c15
      try clear hcz10_0
      try clear hcz10_1
      try clear hcz10_2
      try clear hcz10_3
      try clear hcz10_4
      try clear hcz14_0
      try clear hcz14_1
      try clear hcz14_2
      try clear hcz14_3
      try clear hcz14_4
      try clear hcz16_0
      try clear hcz16_1
      try clear hcz16_2
      try clear hcz16_3
      try clear hcz16_4
      try clear hfz10_0
      try clear hfz10_1
      try clear hfz10_2
      try clear hfz10_3
      try clear hfz10_4
      try clear hfz14_0
      try clear hfz14_1
      try clear hfz14_2
      try clear hfz14_3
      try clear hfz14_4
      try clear hfz16_0
      try clear hfz16_1
      try clear hfz16_2
      try clear hfz16_3
      try clear hfz16_4
      obtain ⟨kq, x28_5, rfl, HA, HJ5, BK255, BK256, HB⟩ := hcut
      cases kq with
      | zero => exact absurd HA.out (by simp [standbyref33_Write.j0])
      | succ kj5 =>
        have H := HA.out
        clear HA
        simp only [standbyref33_Write.j0] at H
        by_cases c17 : x28_5 = true
        · subst c17
          have H1 : (some (0, 0, 0, 0, ([] : List (S71)), 0, 24)) = some (r1, r2, r3, r4, r5, r6, r7) := by rw [if_pos rfl] at H; exact H
          clear H
          have H := H1
          clear H1
          simp only [Option.some.injEq, Prod.mk.injEq] at H
          obtain ⟨rfl, rfl, rfl, rfl, rfl, rfl, rfl⟩ := H
          have hnb18 := NB256_255.out
          have hnc18 := NB255_256.out
          have hcz19_0 : wc.cell? ⟨gb256, 0, none⟩ = some (.int .i64 0) := (blk_cell BK256.out 0).trans rfl
          have hcz19_1 : wc.cell? ⟨gb256, 1, none⟩ = some (.int .i64 0) := (blk_cell BK256.out 1).trans rfl
          have hcz19_2 : wc.cell? ⟨gb256, 2, none⟩ = some (.int .i64 0) := (blk_cell BK256.out 2).trans rfl
          have hcz19_3 : wc.cell? ⟨gb256, 3, none⟩ = some (.int .i64 0) := (blk_cell BK256.out 3).trans rfl
          have hcz19_4 : wc.cell? ⟨gb256, 4, none⟩ = some (.slice none 0 0) := (blk_cell BK256.out 4).trans rfl
          have hfz19_0 := blk_frozen BK256.out 0
          have hfz19_1 := blk_frozen BK256.out 1
          have hfz19_2 := blk_frozen BK256.out 2
          have hfz19_3 := blk_frozen BK256.out 3
          have hfz19_4 := blk_frozen BK256.out 4
          go_wp2
          refine bodyPost_ret (results_ctt rfl _ _ gb256 24 #[.int .i64 0, .int .i64 0, .int .i64 0, .int .i64 0, .slice none 0 0] (0, 0) _ rfl (by (with_reducible repeat (first | refine blk_drewN ?_ _ | refine blk_drew ?_ | refine blk_alloc ?_ _)); refine blk_put (cs := #[.int .i64 0, .int .i64 0, .int .i64 0, .int .i64 0, .slice none 0 0]) ?_ 4 _ rfl; (with_reducible repeat (first | refine blk_drewN ?_ _ | refine blk_drew ?_ | refine blk_alloc ?_ _)); refine blk_put (cs := #[.int .i64 0, .int .i64 0, .int .i64 0, .int .i64 0, .slice none 0 0]) ?_ 3 _ rfl; (with_reducible repeat (first | refine blk_drewN ?_ _ | refine blk_drew ?_ | refine blk_alloc ?_ _)); refine blk_put (cs := #[.int .i64 0, .int .i64 0, .int .i64 0, .int .i64 0, .slice none 0 0]) ?_ 2 _ rfl; (with_reducible repeat (first | refine blk_drewN ?_ _ | refine blk_drew ?_ | refine blk_alloc ?_ _)); refine blk_put (cs := #[.int .i64 0, .int .i64 0, .int .i64 0, .int .i64 0, .slice none 0 0]) ?_ 1 _ rfl; (with_reducible repeat (first | refine blk_drewN ?_ _ | refine blk_drew ?_ | refine blk_alloc ?_ _)); refine blk_put (cs := #[.int .i64 0, .int .i64 0, .int .i64 0, .int .i64 0, .slice none 0 0]) ?_ 0 _ rfl; (with_reducible repeat (first | refine blk_drewN ?_ _ | refine blk_drew ?_ | refine blk_alloc ?_ _)); exact BK256.out) Try.underlying24 rfl (by kernel_rfl)) rfl ?_
          exact ⟨_, by first | rfl | (simp [errW_none, errW_some] <;> rfl) | (simp [*, errW_none, errW_some] <;> rfl), by first | exact Kd.R_nil _ _ _ _ _ | exact Kd.N_nil _ _ _ _ _ | exact Kd.V_nil _ _ _ _ _ | exact Kd.Q_nil _ _ _ _ _ | exact Kd.S_nil _ _ _ _ _, by repeat (first | (with_reducible first | exact HB.out | apply below_alloc | apply pw_below_drewN | apply below_drew1 | refine below_set ?_ GE255.out | refine below_set ?_ GE256.out) | exact HB.out)⟩
        · replace c17 := Bool.eq_false_iff.mpr c17
          subst c17
          have H1 : (if a2 < 1 then (standbyref33_Write.j1 kj5 a1 a2 true a0_0 a0_1 a0_2 a0_3 l0_4) else (standbyref33_Write.j1 kj5 a1 a2 (decide (a2 > 4096)) a0_0 a0_1 a0_2 a0_3 l0_4)) = some (r1, r2, r3, r4, r5, r6, r7) := by rw [if_neg (show ¬ (false = true) by decide)] at H; exact H
          clear H
          have H := H1
          clear H1
          have HC20 := Aside0.mk H
          clear H
          go_upto_region 6 with (fail)
          go_cut [35] (fun v35 wc => ∃ (kq : Nat) (x35_19 : Bool), v35 = .bool x35_19 ∧ Aside0 (standbyref33_Write.j1 kq a1 a2 x35_19 a0_0 a0_1 a0_2 a0_3 l0_4 = some (r1, r2, r3, r4, r5, r6, r7)) ∧ Aside0 (kq ≤ kj5) ∧ Aside0 (wc.heap[gb255]? = some (.cells #[.int .i64 a0_0, .int .i64 a0_1, .int .i64 a0_2, .int .i64 a0_3, (.slice A0_4 l0_4.length c0_4)] 24 (0, 0))) ∧ Aside0 (wc.heap[gb256]? = some (.cells #[.int .i64 0, .int .i64 0, .int .i64 0, .int .i64 0, (.slice none 0 0)] 24 (0, 0))) ∧ Aside0 (Below w.heap.size w wc))
          case first =>
            have H := HC20.out
            clear HC20
            by_cases c21 : a2 < 1
            · rw [if_pos c21] at H
              have c21b0 : decide (a2 < 1) = true := decide_eq_true c21
              clear c21
              (first | rw [c21b0] | (simp only [i64_w, i32_w]; rw [c21b0]) | skip)
              have H' := Aside0.mk H
              clear H
              go_wp2
              go_meet
              case rel => exact ⟨_, (true), (by first | rfl | (simp; done) | (simp [*]; done)), H', ⟨by have := HJ5.out; first | omega | exact Nat.le_refl _⟩, ⟨by (with_reducible repeat (first | refine blk_drewN ?_ _ | refine blk_drew ?_ | refine blk_alloc ?_ _)); exact BK255.out⟩, ⟨by (with_reducible repeat (first | refine blk_drewN ?_ _ | refine blk_drew ?_ | refine blk_alloc ?_ _)); exact BK256.out⟩, ⟨by repeat (first | (with_reducible first | exact HB.out | apply below_alloc | apply pw_below_drewN | apply below_drew1 | refine below_set ?_ GE255.out | refine below_set ?_ GE256.out) | exact HB.out)⟩⟩
            · rw [if_neg c21] at H
              have c21b0 : decide (a2 < 1) = false := decide_eq_false c21
              clear c21
              (first | rw [c21b0] | (simp only [i64_w, i32_w]; rw [c21b0]) | skip)
              have H' := Aside0.mk H
              clear H
              go_wp2
              go_meet
              case rel => exact ⟨_, (decide (a2 > 4096)), (by first | rfl | (simp; done) | (simp [*]; done)), H', ⟨by have := HJ5.out; first | omega | exact Nat.le_refl _⟩, ⟨by (with_reducible repeat (first | refine blk_drewN ?_ _ | refine blk_drew ?_ | refine blk_alloc ?_ _)); exact BK255.out⟩, ⟨by (with_reducible repeat (first | refine blk_drewN ?_ _ | refine blk_drew ?_ | refine blk_alloc ?_ _)); exact BK256.out⟩, ⟨by repeat (first | (with_reducible first | exact HB.out | apply below_alloc | apply pw_below_drewN | apply below_drew1 | refine below_set ?_ GE255.out | refine below_set ?_ GE256.out) | exact HB.out)⟩⟩
          case rest =>
            clear HC20
            try clear c1
            try clear c2
            try clear p2
            try clear c5
            try clear c5b0
            try clear c5b1
            try clear c9
            try clear c12
            try clear c12b0
            try clear c13
            try clear c15
            try clear c17
            try clear c18
            try clear c21
            try clear c21b0
            try clear hcz10_0
            try clear hcz10_1
            try clear hcz10_2
            try clear hcz10_3
            try clear hcz10_4
            try clear hcz14_0
            try clear hcz14_1
            try clear hcz14_2
            try clear hcz14_3
            try clear hcz14_4
            try clear hcz16_0
            try clear hcz16_1
            try clear hcz16_2
            try clear hcz16_3
            try clear hcz16_4
            try clear hcz19_0
            try clear hcz19_1
            try clear hcz19_2
            try clear hcz19_3
            try clear hcz19_4
            try clear hfz10_0
            try clear hfz10_1
            try clear hfz10_2
            try clear hfz10_3
            try clear hfz10_4
            try clear hfz14_0
            try clear hfz14_1
            try clear hfz14_2
            try clear hfz14_3
            try clear hfz14_4
            try clear hfz16_0
            try clear hfz16_1
            try clear hfz16_2
            try clear hfz16_3
            try clear hfz16_4
            try clear hfz19_0
            try clear hfz19_1
            try clear hfz19_2
            try clear hfz19_3
            try clear hfz19_4
            try clear p2
            obtain ⟨kq, x35_19, rfl, HA, HJ19, BK255, BK256, HB⟩ := hcut
            cases kq with
            | zero => exact absurd HA.out (by simp [standbyref33_Write.j1])
            | succ kj19 =>
              have H := HA.out
              clear HA
              simp only [standbyref33_Write.j1] at H
              by_cases c22 : x35_19 = true
              · subst c22
                have H1 : (some (0, 0, 0, 0, ([] : List (S71)), 0, 2)) = some (r1, r2, r3, r4, r5, r6, r7) := by rw [if_pos rfl] at H; exact H
                clear H
                have H := H1
                clear H1
                simp only [Option.some.injEq, Prod.mk.injEq] at H
                obtain ⟨rfl, rfl, rfl, rfl, rfl, rfl, rfl⟩ := H
                have hnb23 := NB256_255.out
                have hnc23 := NB255_256.out
                have hcz24_0 : wc.cell? ⟨gb256, 0, none⟩ = some (.int .i64 0) := (blk_cell BK256.out 0).trans rfl
                have hcz24_1 : wc.cell? ⟨gb256, 1, none⟩ = some (.int .i64 0) := (blk_cell BK256.out 1).trans rfl
                have hcz24_2 : wc.cell? ⟨gb256, 2, none⟩ = some (.int .i64 0) := (blk_cell BK256.out 2).trans rfl
                have hcz24_3 : wc.cell? ⟨gb256, 3, none⟩ = some (.int .i64 0) := (blk_cell BK256.out 3).trans rfl
                have hcz24_4 : wc.cell? ⟨gb256, 4, none⟩ = some (.slice none 0 0) := (blk_cell BK256.out 4).trans rfl
                have hfz24_0 := blk_frozen BK256.out 0
                have hfz24_1 := blk_frozen BK256.out 1
                have hfz24_2 := blk_frozen BK256.out 2
                have hfz24_3 := blk_frozen BK256.out 3
                have hfz24_4 := blk_frozen BK256.out 4
                go_wp2
                refine bodyPost_ret (results_ctt rfl _ _ gb256 24 #[.int .i64 0, .int .i64 0, .int .i64 0, .int .i64 0, .slice none 0 0] (0, 0) _ rfl (by (with_reducible repeat (first | refine blk_drewN ?_ _ | refine blk_drew ?_ | refine blk_alloc ?_ _)); refine blk_put (cs := #[.int .i64 0, .int .i64 0, .int .i64 0, .int .i64 0, .slice none 0 0]) ?_ 4 _ rfl; (with_reducible repeat (first | refine blk_drewN ?_ _ | refine blk_drew ?_ | refine blk_alloc ?_ _)); refine blk_put (cs := #[.int .i64 0, .int .i64 0, .int .i64 0, .int .i64 0, .slice none 0 0]) ?_ 3 _ rfl; (with_reducible repeat (first | refine blk_drewN ?_ _ | refine blk_drew ?_ | refine blk_alloc ?_ _)); refine blk_put (cs := #[.int .i64 0, .int .i64 0, .int .i64 0, .int .i64 0, .slice none 0 0]) ?_ 2 _ rfl; (with_reducible repeat (first | refine blk_drewN ?_ _ | refine blk_drew ?_ | refine blk_alloc ?_ _)); refine blk_put (cs := #[.int .i64 0, .int .i64 0, .int .i64 0, .int .i64 0, .slice none 0 0]) ?_ 1 _ rfl; (with_reducible repeat (first | refine blk_drewN ?_ _ | refine blk_drew ?_ | refine blk_alloc ?_ _)); refine blk_put (cs := #[.int .i64 0, .int .i64 0, .int .i64 0, .int .i64 0, .slice none 0 0]) ?_ 0 _ rfl; (with_reducible repeat (first | refine blk_drewN ?_ _ | refine blk_drew ?_ | refine blk_alloc ?_ _)); exact BK256.out) Try.underlying24 rfl (by kernel_rfl)) rfl ?_
                exact ⟨_, by first | rfl | (simp [errW_none, errW_some] <;> rfl) | (simp [*, errW_none, errW_some] <;> rfl), by first | exact Kd.R_nil _ _ _ _ _ | exact Kd.N_nil _ _ _ _ _ | exact Kd.V_nil _ _ _ _ _ | exact Kd.Q_nil _ _ _ _ _ | exact Kd.S_nil _ _ _ _ _, by repeat (first | (with_reducible first | exact HB.out | apply below_alloc | apply pw_below_drewN | apply below_drew1 | refine below_set ?_ GE255.out | refine below_set ?_ GE256.out) | exact HB.out)⟩
              · replace c22 := Bool.eq_false_iff.mpr c22
                subst c22
                have H1 : (if a2 > (wrap64 (a0_1 * a0_0)) then (some (0, 0, 0, 0, ([] : List (S71)), 0, 21)) else ((standbyref33_tidy.f kj19 l0_4 0).bind fun t259 => (if (wrap64 (a0_3 + a2)) > (wrap64 (a0_1 * a0_0)) then (if a0_1 = 0 then (none) else (some (a0_0, a0_1, a1, a0_3, t259, wrap64 ((wrap64 (Int.tdiv (wrap64 ((wrap64 ((wrap64 (a0_3 + a2)) + a0_1)) - 1)) a0_1)) - a0_0), 0))) else ((standbyref33_Total.f a0_0 a0_1 a0_2 a0_3 l0_4).bind fun t262 => (if (wrap64 (t262 + a2)) > 1073741824 then (some (0, 0, 0, 0, ([] : List (S71)), 0, 11)) else ((standbyref33_Total.f a0_0 a0_1 a0_2 a0_3 l0_4).bind fun t263 => (if (t259.length : Int) > 0 then (if 0 ≤ (wrap64 ((t259.length : Int) - 1)) then (if (wrap64 ((t259.length : Int) - 1)) < (t259.length : Int) then (standbyref33_Write.j2 kj19 a1 a2 (wrap64 (t262 + a2)) (wrap64 (t263 - a0_3)) (t259.length : Int) (((rd_T71 t259 (wrap64 ((t259.length : Int) - 1))).f0) == a1) a0_0 a0_1 a0_2 a0_3 l0_4 a0_0 a0_1 a1 a0_3 t259) else (none)) else (none)) else (standbyref33_Write.j2 kj19 a1 a2 (wrap64 (t262 + a2)) (wrap64 (t263 - a0_3)) (t259.length : Int) false a0_0 a0_1 a0_2 a0_3 l0_4 a0_0 a0_1 a1 a0_3 t259)))))))) = some (r1, r2, r3, r4, r5, r6, r7) := by rw [if_neg (show ¬ (false = true) by decide)] at H; exact H
                clear H
                have H := H1
                clear H1
                by_cases c25 : a2 > (wrap64 (a0_1 * a0_0))
                · rw [if_pos c25] at H
                  have c25b0 : decide ((wrap64 (a0_1 * a0_0)) < a2) = true := decide_eq_true c25
                  clear c25
                  simp only [Option.some.injEq, Prod.mk.injEq] at H
                  obtain ⟨rfl, rfl, rfl, rfl, rfl, rfl, rfl⟩ := H
                  have hnb26 := NB255_256.out
                  have hnc26 := NB256_255.out
                  have hcz27_0 : wc.cell? ⟨gb255, 0, none⟩ = some (.int .i64 a0_0) := (blk_cell BK255.out 0).trans rfl
                  have hcz27_1 : wc.cell? ⟨gb255, 1, none⟩ = some (.int .i64 a0_1) := (blk_cell BK255.out 1).trans rfl
                  have hcz27_2 : wc.cell? ⟨gb255, 2, none⟩ = some (.int .i64 a0_2) := (blk_cell BK255.out 2).trans rfl
                  have hcz27_3 : wc.cell? ⟨gb255, 3, none⟩ = some (.int .i64 a0_3) := (blk_cell BK255.out 3).trans rfl
                  have hcz27_4 : wc.cell? ⟨gb255, 4, none⟩ = some (.slice A0_4 l0_4.length c0_4) := (blk_cell BK255.out 4).trans rfl
                  have hfz27_0 := blk_frozen BK255.out 0
                  have hfz27_1 := blk_frozen BK255.out 1
                  have hfz27_2 := blk_frozen BK255.out 2
                  have hfz27_3 := blk_frozen BK255.out 3
                  have hfz27_4 := blk_frozen BK255.out 4
                  have hcz28_0 : wc.cell? ⟨gb256, 0, none⟩ = some (.int .i64 0) := (blk_cell BK256.out 0).trans rfl
                  have hcz28_1 : wc.cell? ⟨gb256, 1, none⟩ = some (.int .i64 0) := (blk_cell BK256.out 1).trans rfl
                  have hcz28_2 : wc.cell? ⟨gb256, 2, none⟩ = some (.int .i64 0) := (blk_cell BK256.out 2).trans rfl
                  have hcz28_3 : wc.cell? ⟨gb256, 3, none⟩ = some (.int .i64 0) := (blk_cell BK256.out 3).trans rfl
                  have hcz28_4 : wc.cell? ⟨gb256, 4, none⟩ = some (.slice none 0 0) := (blk_cell BK256.out 4).trans rfl
                  have hfz28_0 := blk_frozen BK256.out 0
                  have hfz28_1 := blk_frozen BK256.out 1
                  have hfz28_2 := blk_frozen BK256.out 2
                  have hfz28_3 := blk_frozen BK256.out 3
                  have hfz28_4 := blk_frozen BK256.out 4
                  go_wp2
                  refine bodyPost_ret (results_ctt rfl _ _ gb256 24 #[.int .i64 0, .int .i64 0, .int .i64 0, .int .i64 0, .slice none 0 0] (0, 0) _ rfl (by (with_reducible repeat (first | refine blk_drewN ?_ _ | refine blk_drew ?_ | refine blk_alloc ?_ _)); refine blk_put (cs := #[.int .i64 0, .int .i64 0, .int .i64 0, .int .i64 0, .slice none 0 0]) ?_ 4 _ rfl; (with_reducible repeat (first | refine blk_drewN ?_ _ | refine blk_drew ?_ | refine blk_alloc ?_ _)); refine blk_put (cs := #[.int .i64 0, .int .i64 0, .int .i64 0, .int .i64 0, .slice none 0 0]) ?_ 3 _ rfl; (with_reducible repeat (first | refine blk_drewN ?_ _ | refine blk_drew ?_ | refine blk_alloc ?_ _)); refine blk_put (cs := #[.int .i64 0, .int .i64 0, .int .i64 0, .int .i64 0, .slice none 0 0]) ?_ 2 _ rfl; (with_reducible repeat (first | refine blk_drewN ?_ _ | refine blk_drew ?_ | refine blk_alloc ?_ _)); refine blk_put (cs := #[.int .i64 0, .int .i64 0, .int .i64 0, .int .i64 0, .slice none 0 0]) ?_ 1 _ rfl; (with_reducible repeat (first | refine blk_drewN ?_ _ | refine blk_drew ?_ | refine blk_alloc ?_ _)); refine blk_put (cs := #[.int .i64 0, .int .i64 0, .int .i64 0, .int .i64 0, .slice none 0 0]) ?_ 0 _ rfl; (with_reducible repeat (first | refine blk_drewN ?_ _ | refine blk_drew ?_ | refine blk_alloc ?_ _)); exact BK256.out) Try.underlying24 rfl (by kernel_rfl)) rfl ?_
                  exact ⟨_, by first | rfl | (simp [errW_none, errW_some] <;> rfl) | (simp [*, errW_none, errW_some] <;> rfl), by first | exact Kd.R_nil _ _ _ _ _ | exact Kd.N_nil _ _ _ _ _ | exact Kd.V_nil _ _ _ _ _ | exact Kd.Q_nil _ _ _ _ _ | exact Kd.S_nil _ _ _ _ _, by repeat (first | (with_reducible first | exact HB.out | apply below_alloc | apply pw_below_drewN | apply below_drew1 | refine below_set ?_ GE255.out | refine below_set ?_ GE256.out) | exact HB.out)⟩
                · rw [if_neg c25] at H
                  have c25b0 : decide ((wrap64 (a0_1 * a0_0)) < a2) = false := decide_eq_false c25
                  clear c25
                  replace H := Option.bind_eq_some_iff.mp H
                  obtain ⟨t259, A290, H⟩ := H
                  replace H : (if (wrap64 (a0_3 + a2)) > (wrap64 (a0_1 * a0_0)) then (if a0_1 = 0 then (none) else (some (a0_0, a0_1, a1, a0_3, t259, wrap64 ((wrap64 (Int.tdiv (wrap64 ((wrap64 ((wrap64 (a0_3 + a2)) + a0_1)) - 1)) a0_1)) - a0_0), 0))) else ((standbyref33_Total.f a0_0 a0_1 a0_2 a0_3 l0_4).bind fun t262 => (if (wrap64 (t262 + a2)) > 1073741824 then (some (0, 0, 0, 0, ([] : List (S71)), 0, 11)) else ((standbyref33_Total.f a0_0 a0_1 a0_2 a0_3 l0_4).bind fun t263 => (if (t259.length : Int) > 0 then (if 0 ≤ (wrap64 ((t259.length : Int) - 1)) then (if (wrap64 ((t259.length : Int) - 1)) < (t259.length : Int) then (standbyref33_Write.j2 kj19 a1 a2 (wrap64 (t262 + a2)) (wrap64 (t263 - a0_3)) (t259.length : Int) (((rd_T71 t259 (wrap64 ((t259.length : Int) - 1))).f0) == a1) a0_0 a0_1 a0_2 a0_3 l0_4 a0_0 a0_1 a1 a0_3 t259) else (none)) else (none)) else (standbyref33_Write.j2 kj19 a1 a2 (wrap64 (t262 + a2)) (wrap64 (t263 - a0_3)) (t259.length : Int) false a0_0 a0_1 a0_2 a0_3 l0_4 a0_0 a0_1 a1 a0_3 t259)))))) = some (r1, r2, r3, r4, r5, r6, r7) := H
                  have A29 := Aside0.mk A290
                  clear A290
                  by_cases c30 : (wrap64 (a0_3 + a2)) > (wrap64 (a0_1 * a0_0))
                  · rw [if_pos c30] at H
                    have c30b0 : decide ((wrap64 (a0_1 * a0_0)) < (wrap64 (a0_3 + a2))) = true := decide_eq_true c30
                    clear c30
                    by_cases c31 : a0_1 = 0
                    · rw [if_pos c31] at H
                      exact absurd H (by simp)
                    · rw [if_neg c31] at H
                      have c31b0 : (a0_1 == 0) = false := beq_eq_false_iff_ne.mpr c31
                      have c31b1 : (a0_1 != 0) = true := bne_iff_ne.mpr c31
                      simp only [Option.some.injEq, Prod.mk.injEq] at H
                      obtain ⟨rfl, rfl, rfl, rfl, rfl, rfl, rfl⟩ := H
                      have hnb32 := NB255_256.out
                      have hnc32 := NB256_255.out
                      have hcz33_0 : wc.cell? ⟨gb255, 0, none⟩ = some (.int .i64 a0_0) := (blk_cell BK255.out 0).trans rfl
                      have hcz33_1 : wc.cell? ⟨gb255, 1, none⟩ = some (.int .i64 a0_1) := (blk_cell BK255.out 1).trans rfl
                      have hcz33_2 : wc.cell? ⟨gb255, 2, none⟩ = some (.int .i64 a0_2) := (blk_cell BK255.out 2).trans rfl
                      have hcz33_3 : wc.cell? ⟨gb255, 3, none⟩ = some (.int .i64 a0_3) := (blk_cell BK255.out 3).trans rfl
                      have hcz33_4 : wc.cell? ⟨gb255, 4, none⟩ = some (.slice A0_4 l0_4.length c0_4) := (blk_cell BK255.out 4).trans rfl
                      have hfz33_0 := blk_frozen BK255.out 0
                      have hfz33_1 := blk_frozen BK255.out 1
                      have hfz33_2 := blk_frozen BK255.out 2
                      have hfz33_3 := blk_frozen BK255.out 3
                      have hfz33_4 := blk_frozen BK255.out 4
                      try go_wp2_with (first | ((with_reducible refine gate_dst (N := 10) rfl ?_); refine box_event ?hg (N := 10) ?hd (cs := #[.int .i64 0, .int .i64 0, .int .i64 0, .int .i64 0, .slice none 0 0]) (t := 24) ?hr ?_; (case hd => rfl); (case hg => rfl); (case hr => first | (go_simp; done) | (go_simp; rfl)); intro gb258 hg w34 hbox hb; have n0_ := Aside0.mk (blk_below (g := gb255) (o := .cells #[.int .i64 a0_0, .int .i64 a0_1, .int .i64 a0_2, .int .i64 a0_3, .slice A0_4 l0_4.length c0_4] 24 (0, 0)) (by (with_reducible repeat (first | refine blk_drewN ?_ _ | refine blk_drew ?_ | refine blk_alloc ?_ _)); exact BK255.out) hb); have n1_ := Aside0.mk (blk_below (g := gb256) (o := .cells #[.int .i64 0, .int .i64 0, .int .i64 0, .int .i64 0, .slice none 0 0] 24 (0, 0)) (by (with_reducible repeat (first | refine blk_drewN ?_ _ | refine blk_drew ?_ | refine blk_alloc ?_ _)); exact BK256.out) hb); have n2_ := Aside0.mk (below_step (by repeat (first | (with_reducible first | exact HB.out | apply below_alloc | apply pw_below_drewN | apply below_drew1 | refine below_set ?_ GE255.out | refine below_set ?_ GE256.out) | exact HB.out)) hb); have n3_ := Aside0.mk (hbox); have n4_ := Aside0.mk ((by rw [hg]; exact (below_size (by repeat (first | (with_reducible first | exact HB.out | apply below_alloc | apply pw_below_drewN | apply below_drew1 | refine below_set ?_ GE255.out | refine below_set ?_ GE256.out) | exact HB.out))) : w.heap.size ≤ gb258)); have n5_ := Aside0.mk ((by rw [hg]; exact (below_size (by repeat (first | (with_reducible first | exact HB.out | apply below_alloc | apply pw_below_drewN | apply below_drew1 | refine below_set ?_ GE255.out | refine below_set ?_ GE256.out) | exact HB.out))) : w.heap.size ≤ gb258)); have n6_ := Aside0.mk ((by rw [hg]; exact Nat.ne_of_lt (blk_lt (g := gb255) (o := .cells #[.int .i64 a0_0, .int .i64 a0_1, .int .i64 a0_2, .int .i64 a0_3, .slice A0_4 l0_4.length c0_4] 24 (0, 0)) (by (with_reducible repeat (first | refine blk_drewN ?_ _ | refine blk_drew ?_ | refine blk_alloc ?_ _)); exact BK255.out)) : gb255 ≠ gb258)); have n7_ := Aside0.mk ((by rw [hg]; exact Nat.ne_of_gt (blk_lt (g := gb255) (o := .cells #[.int .i64 a0_0, .int .i64 a0_1, .int .i64 a0_2, .int .i64 a0_3, .slice A0_4 l0_4.length c0_4] 24 (0, 0)) (by (with_reducible repeat (first | refine blk_drewN ?_ _ | refine blk_drew ?_ | refine blk_alloc ?_ _)); exact BK255.out)) : gb258 ≠ gb255)); have n8_ := Aside0.mk ((by rw [hg]; exact Nat.ne_of_lt (blk_lt (g := gb256) (o := .cells #[.int .i64 0, .int .i64 0, .int .i64 0, .int .i64 0, .slice none 0 0] 24 (0, 0)) (by (with_reducible repeat (first | refine blk_drewN ?_ _ | refine blk_drew ?_ | refine blk_alloc ?_ _)); exact BK256.out)) : gb256 ≠ gb258)); have n9_ := Aside0.mk ((by rw [hg]; exact Nat.ne_of_gt (blk_lt (g := gb256) (o := .cells #[.int .i64 0, .int .i64 0, .int .i64 0, .int .i64 0, .slice none 0 0] 24 (0, 0)) (by (with_reducible repeat (first | refine blk_drewN ?_ _ | refine blk_drew ?_ | refine blk_alloc ?_ _)); exact BK256.out)) : gb258 ≠ gb256)); clear BK255; clear BK256; clear HB; have BK255 := n0_; have BK256 := n1_; have HB := n2_; have BK258 := n3_; have GW258 := n4_; have GE258 := n5_; have NB255_258 := n6_; have NB258_255 := n7_; have NB256_258 := n8_; have NB258_256 := n9_; clear n0_ n1_ n2_ n3_ n4_ n5_ n6_ n7_ n8_ n9_; clear hb hbox hg; have hnb35 := NB258_255.out; have hnc35 := NB255_258.out; have hnb36 := NB258_256.out; have hnc36 := NB256_258.out; have hcz37_0 : w34.cell? ⟨gb258, 0, none⟩ = some (.int .i64 0) := (blk_cell BK258.out 0).trans rfl; have hcz37_1 : w34.cell? ⟨gb258, 1, none⟩ = some (.int .i64 0) := (blk_cell BK258.out 1).trans rfl; have hcz37_2 : w34.cell? ⟨gb258, 2, none⟩ = some (.int .i64 0) := (blk_cell BK258.out 2).trans rfl; have hcz37_3 : w34.cell? ⟨gb258, 3, none⟩ = some (.int .i64 0) := (blk_cell BK258.out 3).trans rfl; have hcz37_4 : w34.cell? ⟨gb258, 4, none⟩ = some (.slice none 0 0) := (blk_cell BK258.out 4).trans rfl; have hfz37_0 := blk_frozen BK258.out 0; have hfz37_1 := blk_frozen BK258.out 1; have hfz37_2 := blk_frozen BK258.out 2; have hfz37_3 := blk_frozen BK258.out 3; have hfz37_4 := blk_frozen BK258.out 4; have hcz38_0 : w34.cell? ⟨gb255, 0, none⟩ = some (.int .i64 a0_0) := (blk_cell BK255.out 0).trans rfl; have hcz38_1 : w34.cell? ⟨gb255, 1, none⟩ = some (.int .i64 a0_1) := (blk_cell BK255.out 1).trans rfl; have hcz38_2 : w34.cell? ⟨gb255, 2, none⟩ = some (.int .i64 a0_2) := (blk_cell BK255.out 2).trans rfl; have hcz38_3 : w34.cell? ⟨gb255, 3, none⟩ = some (.int .i64 a0_3) := (blk_cell BK255.out 3).trans rfl; have hcz38_4 : w34.cell? ⟨gb255, 4, none⟩ = some (.slice A0_4 l0_4.length c0_4) := (blk_cell BK255.out 4).trans rfl; have hfz38_0 := blk_frozen BK255.out 0; have hfz38_1 := blk_frozen BK255.out 1; have hfz38_2 := blk_frozen BK255.out 2; have hfz38_3 := blk_frozen BK255.out 3; have hfz38_4 := blk_frozen BK255.out 4) | ((with_reducible refine gate_callee (f := 34) rfl ?_); refine goesL_ (some 50) rfl rfl Try.func34 (by kernel_rfl) rfl #[.slice A0_4 l0_4.length c0_4, .int .i64 0] rfl (by (try simp only [List.map_toArray, List.map_cons, List.map_nil]); first | done | rfl | (simp only [List.length_drop, List.length_take]; rfl)) ?_; (with_reducible refine (standbyref33_tidy.calls kj19 _ _ l0_4 0 t259 _ ?side1 ?side2 A29.out).mono ?_); (case side1 => exact Kd.C_below HR0_4.out (by repeat (first | (with_reducible first | exact HB.out | apply below_alloc | apply pw_below_drewN | apply below_drew1 | refine below_set ?_ GE255.out | refine below_set ?_ GE256.out | refine below_set ?_ GE258.out) | exact HB.out))); (case side2 => exact HC0_4.out); rintro e w39 ⟨v260, rfl, ho0, hb⟩; refine ⟨_, rfl, ?_⟩; have n0_ := Aside0.mk (Kd.R_lower ho0 (below_size (by repeat (first | (with_reducible first | exact HB.out | apply below_alloc | apply pw_below_drewN | apply below_drew1 | refine below_set ?_ GE255.out | refine below_set ?_ GE256.out | refine below_set ?_ GE258.out) | exact HB.out)))); have n1_ := Aside0.mk (blk_below (g := gb255) (o := .cells #[.int .i64 a0_0, .int .i64 a0_1, .int .i64 a0_2, .int .i64 a0_3, .slice A0_4 l0_4.length c0_4] 24 (0, 0)) (by (with_reducible repeat (first | refine blk_drewN ?_ _ | refine blk_drew ?_ | refine blk_alloc ?_ _)); refine blk_far ?_ NB255_258.out _; (with_reducible repeat (first | refine blk_drewN ?_ _ | refine blk_drew ?_ | refine blk_alloc ?_ _)); refine blk_far ?_ NB255_258.out _; (with_reducible repeat (first | refine blk_drewN ?_ _ | refine blk_drew ?_ | refine blk_alloc ?_ _)); refine blk_far ?_ NB255_258.out _; (with_reducible repeat (first | refine blk_drewN ?_ _ | refine blk_drew ?_ | refine blk_alloc ?_ _)); refine blk_far ?_ NB255_258.out _; (with_reducible repeat (first | refine blk_drewN ?_ _ | refine blk_drew ?_ | refine blk_alloc ?_ _)); refine blk_far ?_ NB255_258.out _; (with_reducible repeat (first | refine blk_drewN ?_ _ | refine blk_drew ?_ | refine blk_alloc ?_ _)); refine blk_far ?_ NB255_258.out _; (with_reducible repeat (first | refine blk_drewN ?_ _ | refine blk_drew ?_ | refine blk_alloc ?_ _)); exact BK255.out) hb); have n2_ := Aside0.mk (blk_below (g := gb256) (o := .cells #[.int .i64 0, .int .i64 0, .int .i64 0, .int .i64 0, .slice none 0 0] 24 (0, 0)) (by (with_reducible repeat (first | refine blk_drewN ?_ _ | refine blk_drew ?_ | refine blk_alloc ?_ _)); refine blk_far ?_ NB256_258.out _; (with_reducible repeat (first | refine blk_drewN ?_ _ | refine blk_drew ?_ | refine blk_alloc ?_ _)); refine blk_far ?_ NB256_258.out _; (with_reducible repeat (first | refine blk_drewN ?_ _ | refine blk_drew ?_ | refine blk_alloc ?_ _)); refine blk_far ?_ NB256_258.out _; (with_reducible repeat (first | refine blk_drewN ?_ _ | refine blk_drew ?_ | refine blk_alloc ?_ _)); refine blk_far ?_ NB256_258.out _; (with_reducible repeat (first | refine blk_drewN ?_ _ | refine blk_drew ?_ | refine blk_alloc ?_ _)); refine blk_far ?_ NB256_258.out _; (with_reducible repeat (first | refine blk_drewN ?_ _ | refine blk_drew ?_ | refine blk_alloc ?_ _)); refine blk_far ?_ NB256_258.out _; (with_reducible repeat (first | refine blk_drewN ?_ _ | refine blk_drew ?_ | refine blk_alloc ?_ _)); exact BK256.out) hb); have n3_ := Aside0.mk (blk_below (g := gb258) (o := .cells #[.int .i64 a0_0, .int .i64 a0_1, .int .i64 a1, .int .i64 a0_3, .slice A0_4 l0_4.length c0_4] 24 (0, 0)) (by (with_reducible repeat (first | refine blk_drewN ?_ _ | refine blk_drew ?_ | refine blk_alloc ?_ _)); refine blk_put (cs := #[.int .i64 a0_0, .int .i64 a0_1, .int .i64 a0_2, .int .i64 a0_3, .slice A0_4 l0_4.length c0_4]) ?_ 2 _ rfl; (with_reducible repeat (first | refine blk_drewN ?_ _ | refine blk_drew ?_ | refine blk_alloc ?_ _)); refine blk_put (cs := #[.int .i64 a0_0, .int .i64 a0_1, .int .i64 a0_2, .int .i64 a0_3, .slice none 0 0]) ?_ 4 _ rfl; (with_reducible repeat (first | refine blk_drewN ?_ _ | refine blk_drew ?_ | refine blk_alloc ?_ _)); refine blk_put (cs := #[.int .i64 a0_0, .int .i64 a0_1, .int .i64 a0_2, .int .i64 0, .slice none 0 0]) ?_ 3 _ rfl; (with_reducible repeat (first | refine blk_drewN ?_ _ | refine blk_drew ?_ | refine blk_alloc ?_ _)); refine blk_put (cs := #[.int .i64 a0_0, .int .i64 a0_1, .int .i64 0, .int .i64 0, .slice none 0 0]) ?_ 2 _ rfl; (with_reducible repeat (first | refine blk_drewN ?_ _ | refine blk_drew ?_ | refine blk_alloc ?_ _)); refine blk_put (cs := #[.int .i64 a0_0, .int .i64 0, .int .i64 0, .int .i64 0, .slice none 0 0]) ?_ 1 _ rfl; (with_reducible repeat (first | refine blk_drewN ?_ _ | refine blk_drew ?_ | refine blk_alloc ?_ _)); refine blk_put (cs := #[.int .i64 0, .int .i64 0, .int .i64 0, .int .i64 0, .slice none 0 0]) ?_ 0 _ rfl; (with_reducible repeat (first | refine blk_drewN ?_ _ | refine blk_drew ?_ | refine blk_alloc ?_ _)); exact BK258.out) hb); have n4_ := Aside0.mk (below_step (by repeat (first | (with_reducible first | exact HB.out | apply below_alloc | apply pw_below_drewN | apply below_drew1 | refine below_set ?_ GE255.out | refine below_set ?_ GE256.out | refine below_set ?_ GE258.out) | exact HB.out)) hb); clear BK255; clear BK256; clear BK258; clear HB; have HO261 := n0_; have BK255 := n1_; have BK256 := n2_; have BK258 := n3_; have HB := n4_; clear n0_ n1_ n2_ n3_ n4_; (try clear hb); (try clear hb2); (try clear hk); (try clear hi); (try clear ho0); obtain ⟨Ao40, co40, eo40⟩ := Kd.R_slice HO261.out; subst eo40; have hcz41_0 : w39.cell? ⟨gb258, 0, none⟩ = some (.int .i64 a0_0) := (blk_cell BK258.out 0).trans rfl; have hcz41_1 : w39.cell? ⟨gb258, 1, none⟩ = some (.int .i64 a0_1) := (blk_cell BK258.out 1).trans rfl; have hcz41_2 : w39.cell? ⟨gb258, 2, none⟩ = some (.int .i64 a1) := (blk_cell BK258.out 2).trans rfl; have hcz41_3 : w39.cell? ⟨gb258, 3, none⟩ = some (.int .i64 a0_3) := (blk_cell BK258.out 3).trans rfl; have hcz41_4 : w39.cell? ⟨gb258, 4, none⟩ = some (.slice A0_4 l0_4.length c0_4) := (blk_cell BK258.out 4).trans rfl; have hfz41_0 := blk_frozen BK258.out 0; have hfz41_1 := blk_frozen BK258.out 1; have hfz41_2 := blk_frozen BK258.out 2; have hfz41_3 := blk_frozen BK258.out 3; have hfz41_4 := blk_frozen BK258.out 4; have hcz42_0 : w39.cell? ⟨gb255, 0, none⟩ = some (.int .i64 a0_0) := (blk_cell BK255.out 0).trans rfl; have hcz42_1 : w39.cell? ⟨gb255, 1, none⟩ = some (.int .i64 a0_1) := (blk_cell BK255.out 1).trans rfl; have hcz42_2 : w39.cell? ⟨gb255, 2, none⟩ = some (.int .i64 a0_2) := (blk_cell BK255.out 2).trans rfl; have hcz42_3 : w39.cell? ⟨gb255, 3, none⟩ = some (.int .i64 a0_3) := (blk_cell BK255.out 3).trans rfl; have hcz42_4 : w39.cell? ⟨gb255, 4, none⟩ = some (.slice A0_4 l0_4.length c0_4) := (blk_cell BK255.out 4).trans rfl; have hfz42_0 := blk_frozen BK255.out 0; have hfz42_1 := blk_frozen BK255.out 1; have hfz42_2 := blk_frozen BK255.out 2; have hfz42_3 := blk_frozen BK255.out 3; have hfz42_4 := blk_frozen BK255.out 4))
                      have n0_ : Aside0 (Kd.R k71 71 (w39.setCell ⟨gb258, 4, none⟩ (.slice Ao40 t259.length co40)) w.heap.size (fun _ => True) (.slice Ao40 t259.length co40) t259) := ⟨by (with_reducible repeat (first | apply Kd.R_alloc | apply Kd.R_drewN | apply Kd.R_drew)); exact Kd.R_mono (Kd.R_far (p := ⟨gb258, 4, none⟩) (Kd.R_types HO261.out BK258.out (by decide)) (fun _ hk => hk.2) (.slice Ao40 t259.length co40)) (fun _ hk => trivial)⟩
                      have n1_ : Aside0 ((w39.setCell ⟨gb258, 4, none⟩ (.slice Ao40 t259.length co40)).heap[gb255]? = some (.cells #[.int .i64 a0_0, .int .i64 a0_1, .int .i64 a0_2, .int .i64 a0_3, .slice A0_4 l0_4.length c0_4] 24 (0, 0))) := ⟨by (with_reducible repeat (first | refine blk_drewN ?_ _ | refine blk_drew ?_ | refine blk_alloc ?_ _)); refine blk_far ?_ NB255_258.out _; (with_reducible repeat (first | refine blk_drewN ?_ _ | refine blk_drew ?_ | refine blk_alloc ?_ _)); exact BK255.out⟩
                      have n2_ : Aside0 ((w39.setCell ⟨gb258, 4, none⟩ (.slice Ao40 t259.length co40)).heap[gb256]? = some (.cells #[.int .i64 0, .int .i64 0, .int .i64 0, .int .i64 0, .slice none 0 0] 24 (0, 0))) := ⟨by (with_reducible repeat (first | refine blk_drewN ?_ _ | refine blk_drew ?_ | refine blk_alloc ?_ _)); refine blk_far ?_ NB256_258.out _; (with_reducible repeat (first | refine blk_drewN ?_ _ | refine blk_drew ?_ | refine blk_alloc ?_ _)); exact BK256.out⟩
                      have n3_ : Aside0 ((w39.setCell ⟨gb258, 4, none⟩ (.slice Ao40 t259.length co40)).heap[gb258]? = some (.cells #[.int .i64 a0_0, .int .i64 a0_1, .int .i64 a1, .int .i64 a0_3, .slice Ao40 t259.length co40] 24 (0, 0))) := ⟨by (with_reducible repeat (first | refine blk_drewN ?_ _ | refine blk_drew ?_ | refine blk_alloc ?_ _)); refine blk_put (cs := #[.int .i64 a0_0, .int .i64 a0_1, .int .i64 a1, .int .i64 a0_3, .slice A0_4 l0_4.length c0_4]) ?_ 4 _ rfl; (with_reducible repeat (first | refine blk_drewN ?_ _ | refine blk_drew ?_ | refine blk_alloc ?_ _)); exact BK258.out⟩
                      have n4_ : Aside0 (Below w.heap.size w (w39.setCell ⟨gb258, 4, none⟩ (.slice Ao40 t259.length co40))) := ⟨by repeat (first | (with_reducible first | exact HB.out | apply below_alloc | apply pw_below_drewN | apply below_drew1 | refine below_set ?_ GE255.out | refine below_set ?_ GE256.out | refine below_set ?_ GE258.out) | exact HB.out)⟩
                      (try clear HO261)
                      (try clear BK255)
                      (try clear BK256)
                      (try clear BK258)
                      (try clear HB)
                      generalize (w39.setCell ⟨gb258, 4, none⟩ (.slice Ao40 t259.length co40)) = w43 at n0_ n1_ n2_ n3_ n4_ ⊢
                      have HO261 := n0_
                      have BK255 := n1_
                      have BK256 := n2_
                      have BK258 := n3_
                      have HB := n4_
                      clear n0_ n1_ n2_ n3_ n4_
                      have n0_ := Aside0.mk (Kd.R_drew HO261.out)
                      have n1_ := Aside0.mk (blk_drew BK255.out)
                      have n2_ := Aside0.mk (blk_drew BK256.out)
                      have n3_ := Aside0.mk (blk_drew BK258.out)
                      have n4_ := Aside0.mk (below_drew1 HB.out)
                      clear HO261
                      clear BK255
                      clear BK256
                      clear BK258
                      clear HB
                      have HO261 := n0_
                      have BK255 := n1_
                      have BK256 := n2_
                      have BK258 := n3_
                      have HB := n4_
                      clear n0_ n1_ n2_ n3_ n4_
                      refine start_ (n := 15) (S := fun w' => w'.cell? ⟨gb258, 0, none⟩ = some (.int .i64 a0_0) ∧ w'.cell? ⟨gb258, 1, none⟩ = some (.int .i64 a0_1) ∧ w'.cell? ⟨gb258, 2, none⟩ = some (.int .i64 a1) ∧ w'.cell? ⟨gb258, 3, none⟩ = some (.int .i64 a0_3) ∧ w'.cell? ⟨gb258, 4, none⟩ = some (.slice Ao40 t259.length co40) ∧ w'.cell? ⟨gb255, 0, none⟩ = some (.int .i64 a0_0) ∧ w'.cell? ⟨gb255, 1, none⟩ = some (.int .i64 a0_1) ∧ w'.cell? ⟨gb255, 2, none⟩ = some (.int .i64 a0_2) ∧ w'.cell? ⟨gb255, 3, none⟩ = some (.int .i64 a0_3) ∧ w'.cell? ⟨gb255, 4, none⟩ = some (.slice A0_4 l0_4.length c0_4)) (ds := []) #[false, false, false, false, false, false, false, false, false, false, false, false, false, false, false] (by kernel_rfl) rfl rfl ⟨(blk_cell BK258.out 0).trans rfl, (blk_cell BK258.out 1).trans rfl, (blk_cell BK258.out 2).trans rfl, (blk_cell BK258.out 3).trans rfl, (blk_cell BK258.out 4).trans rfl, (blk_cell BK255.out 0).trans rfl, (blk_cell BK255.out 1).trans rfl, (blk_cell BK255.out 2).trans rfl, (blk_cell BK255.out 3).trans rfl, (blk_cell BK255.out 4).trans rfl⟩ (fun hHeld => ?_); refine with_tabW standbyref33_Write.tab15 standbyref33_Write.bits15 (fun HT_ HW_ => ?_)
                      generalize w43.drew = w44 at HO261 BK255 BK256 BK258 HB hHeld ⊢
                      refine pure_ (i := 1) (N := some 64) (v := ?_) (a' := ?_) #[false, true, false, false, false, false, false, false, false, false, false, false, false, false, false] rfl rfl (any_of HT_.out (by kernel_rfl)) (fun _ _ _ h => h) (Or.inl ⟨by rfl, ?_⟩) ?_ ?_
                      rotate_left
                      · intro w'
                        go_simp
                        with_reducible rfl
                      rotate_left
                      · simp only [Act.put, List.setIfInBounds_toArray, List.set_cons_zero, List.set_cons_succ, i64_w, i32_w]
                        rfl
                      refine pure_ (i := 2) (N := some 65) (v := ?_) (a' := ?_) #[false, true, true, false, false, false, false, false, false, false, false, false, false, false, false] rfl rfl (any_of HT_.out (by kernel_rfl)) (fun _ _ _ h => h) (Or.inl ⟨by rfl, ?_⟩) ?_ ?_
                      rotate_left
                      · intro w'
                        go_simp
                        with_reducible rfl
                      rotate_left
                      · simp only [Act.put, List.setIfInBounds_toArray, List.set_cons_zero, List.set_cons_succ, i64_w, i32_w]
                        rfl
                      refine pure_ (i := 6) (N := some 69) (v := ?_) (a' := ?_) #[false, true, true, false, false, false, true, false, false, false, false, false, false, false, false] rfl rfl (any_of HT_.out (by kernel_rfl)) (fun _ _ _ h => h) (Or.inl ⟨by rfl, ?_⟩) ?_ ?_
                      rotate_left
                      · intro w'
                        go_simp
                        with_reducible rfl
                      rotate_left
                      · simp only [Act.put, List.setIfInBounds_toArray, List.set_cons_zero, List.set_cons_succ, i64_w, i32_w]
                        rfl
                      refine pure_ (i := 9) (N := some 72) (v := ?_) (a' := ?_) #[false, true, true, false, false, false, true, false, false, true, false, false, false, false, false] rfl rfl (any_of HT_.out (by kernel_rfl)) (fun _ _ _ h => h) (Or.inl ⟨by rfl, ?_⟩) ?_ ?_
                      rotate_left
                      · intro w'
                        go_simp
                        with_reducible rfl
                      rotate_left
                      · simp only [Act.put, List.setIfInBounds_toArray, List.set_cons_zero, List.set_cons_succ, i64_w, i32_w]
                        rfl
                      refine take_ (i := 0) (N := some 63) (v := ?_) (a' := ?_) #[true, true, true, false, false, false, true, false, false, true, false, false, false, false, false] rfl rfl (take_ofW HT_.out HW_.out (by kernel_rfl)) (fun _ _ _ h => h) (Or.inl ⟨by rfl, ?_⟩) hHeld ?_ ?_
                      rotate_left
                      · rintro w' ⟨s0, s1, s2, s3, s4, s5, s6, s7, s8, s9⟩
                        go_simp
                        with_reducible rfl
                      rotate_left
                      · simp only [Act.put, List.setIfInBounds_toArray, List.set_cons_zero, List.set_cons_succ, i64_w, i32_w]
                        rfl
                      refine take_ (i := 3) (N := some 66) (v := ?_) (a' := ?_) #[true, true, true, true, false, false, true, false, false, true, false, false, false, false, false] rfl rfl (take_ofW HT_.out HW_.out (by kernel_rfl)) (fun _ _ _ h => h) (Or.inl ⟨by rfl, ?_⟩) hHeld ?_ ?_
                      rotate_left
                      · rintro w' ⟨s0, s1, s2, s3, s4, s5, s6, s7, s8, s9⟩
                        go_simp
                        with_reducible rfl
                      rotate_left
                      · simp only [Act.put, List.setIfInBounds_toArray, List.set_cons_zero, List.set_cons_succ, i64_w, i32_w]
                        rfl
                      refine pure_ (i := 4) (N := some 67) (v := ?_) (a' := ?_) #[true, true, true, true, true, false, true, false, false, true, false, false, false, false, false] rfl rfl (any_of HT_.out (by kernel_rfl)) (fun _ _ _ h => h) (Or.inl ⟨by rfl, ?_⟩) ?_ ?_
                      rotate_left
                      · intro w'
                        go_simp
                        with_reducible rfl
                      rotate_left
                      · simp only [Act.put, List.setIfInBounds_toArray, List.set_cons_zero, List.set_cons_succ, i64_w, i32_w]
                        rfl
                      refine pure_ (i := 5) (N := some 68) (v := ?_) (a' := ?_) #[true, true, true, true, true, true, true, false, false, true, false, false, false, false, false] rfl rfl (any_of HT_.out (by kernel_rfl)) (fun _ _ _ h => h) (Or.inl ⟨by rfl, ?_⟩) ?_ ?_
                      rotate_left
                      · intro w'
                        go_simp
                        with_reducible rfl
                      rotate_left
                      · simp only [Act.put, List.setIfInBounds_toArray, List.set_cons_zero, List.set_cons_succ, i64_w, i32_w]
                        rfl
                      refine take_ (i := 7) (N := some 70) (v := ?_) (a' := ?_) #[true, true, true, true, true, true, true, true, false, true, false, false, false, false, false] rfl rfl (take_ofW HT_.out HW_.out (by kernel_rfl)) (fun _ _ _ h => h) (Or.inl ⟨by rfl, ?_⟩) hHeld ?_ ?_
                      rotate_left
                      · rintro w' ⟨s0, s1, s2, s3, s4, s5, s6, s7, s8, s9⟩
                        go_simp
                        with_reducible rfl
                      rotate_left
                      · simp only [Act.put, List.setIfInBounds_toArray, List.set_cons_zero, List.set_cons_succ, i64_w, i32_w]
                        rfl
                      refine pure_ (i := 8) (N := some 71) (v := ?_) (a' := ?_) #[true, true, true, true, true, true, true, true, true, true, false, false, false, false, false] rfl rfl (any_of HT_.out (by kernel_rfl)) (fun _ _ _ h => h) (Or.inl ⟨by rfl, ?_⟩) ?_ ?_
                      rotate_left
                      · intro w'
                        go_simp
                        with_reducible rfl
                      rotate_left
                      · simp only [Act.put, List.setIfInBounds_toArray, List.set_cons_zero, List.set_cons_succ, i64_w, i32_w]
                        rfl
                      refine take_ (i := 10) (N := some 73) (v := ?_) (a' := ?_) #[true, true, true, true, true, true, true, true, true, true, true, false, false, false, false] rfl rfl (take_ofW HT_.out HW_.out (by kernel_rfl)) (fun _ _ _ h => h) (Or.inl ⟨by rfl, ?_⟩) hHeld ?_ ?_
                      rotate_left
                      · rintro w' ⟨s0, s1, s2, s3, s4, s5, s6, s7, s8, s9⟩
                        go_simp
                        with_reducible rfl
                      rotate_left
                      · simp only [Act.put, List.setIfInBounds_toArray, List.set_cons_zero, List.set_cons_succ, i64_w, i32_w]
                        rfl
                      refine pure_ (i := 11) (N := some 74) (v := ?_) (a' := ?_) #[true, true, true, true, true, true, true, true, true, true, true, true, false, false, false] rfl rfl (any_of HT_.out (by kernel_rfl)) (fun _ _ _ h => h) (Or.inl ⟨by rfl, ?_⟩) ?_ ?_
                      rotate_left
                      · intro w'
                        go_simp
                        with_reducible rfl
                      rotate_left
                      · simp only [Act.put, List.setIfInBounds_toArray, List.set_cons_zero, List.set_cons_succ, i64_w, i32_w]
                        rfl
                      refine one_ (i := 12) (N := none) #[true, true, true, true, true, true, true, true, true, true, true, true, true, false, false] rfl rfl (one_of HT_.out (by kernel_rfl)) (by decide) (fun K hK => ?_)
                      have hs45 : w44.cell? ⟨gb256, 0, none⟩ = some (.int .i64 0) := (blk_cell BK256.out 0).trans rfl
                      have hfs45 := blk_frozen BK256.out 0
                      have hns45_0 := NB255_256.out
                      have hns45_2 := NB258_256.out
                      have hms45_0 := NB256_255.out
                      have hms45_2 := NB256_258.out
                      have hs46 : w44.cell? ⟨gb256, 1, none⟩ = some (.int .i64 0) := (blk_cell BK256.out 1).trans rfl
                      have hfs46 := blk_frozen BK256.out 1
                      have hns46_0 := NB255_256.out
                      have hns46_2 := NB258_256.out
                      have hms46_0 := NB256_255.out
                      have hms46_2 := NB256_258.out
                      have hs47 : w44.cell? ⟨gb256, 2, none⟩ = some (.int .i64 0) := (blk_cell BK256.out 2).trans rfl
                      have hfs47 := blk_frozen BK256.out 2
                      have hns47_0 := NB255_256.out
                      have hns47_2 := NB258_256.out
                      have hms47_0 := NB256_255.out
                      have hms47_2 := NB256_258.out
                      have hs48 : w44.cell? ⟨gb256, 3, none⟩ = some (.int .i64 0) := (blk_cell BK256.out 3).trans rfl
                      have hfs48 := blk_frozen BK256.out 3
                      have hns48_0 := NB255_256.out
                      have hns48_2 := NB258_256.out
                      have hms48_0 := NB256_255.out
                      have hms48_2 := NB256_258.out
                      have hs49 : w44.cell? ⟨gb256, 4, none⟩ = some (.slice none 0 0) := (blk_cell BK256.out 4).trans rfl
                      have hfs49 := blk_frozen BK256.out 4
                      have hns49_0 := NB255_256.out
                      have hns49_2 := NB258_256.out
                      have hms49_0 := NB256_255.out
                      have hms49_2 := NB256_258.out
                      refine skip_ (w1 := ?_) (by rfl) rfl ?_ ?_
                      rotate_left
                      · go_simp
                        rfl
                      refine hK.out _ _ ⟨((cell_far (p := ⟨gb256, _, none⟩) NB258_256.out _).trans (((cell_far (p := ⟨gb256, _, none⟩) NB258_256.out _).trans (((cell_far (p := ⟨gb256, _, none⟩) NB258_256.out _).trans (((cell_far (p := ⟨gb256, _, none⟩) NB258_256.out _).trans (((cell_far (p := ⟨gb256, _, none⟩) NB258_256.out _).trans (hHeld.1)))))))))), ((cell_far (p := ⟨gb256, _, none⟩) NB258_256.out _).trans (((cell_far (p := ⟨gb256, _, none⟩) NB258_256.out _).trans (((cell_far (p := ⟨gb256, _, none⟩) NB258_256.out _).trans (((cell_far (p := ⟨gb256, _, none⟩) NB258_256.out _).trans (((cell_far (p := ⟨gb256, _, none⟩) NB258_256.out _).trans (hHeld.2.1)))))))))), ((cell_far (p := ⟨gb256, _, none⟩) NB258_256.out _).trans (((cell_far (p := ⟨gb256, _, none⟩) NB258_256.out _).trans (((cell_far (p := ⟨gb256, _, none⟩) NB258_256.out _).trans (((cell_far (p := ⟨gb256, _, none⟩) NB258_256.out _).trans (((cell_far (p := ⟨gb256, _, none⟩) NB258_256.out _).trans (hHeld.2.2.1)))))))))), ((cell_far (p := ⟨gb256, _, none⟩) NB258_256.out _).trans (((cell_far (p := ⟨gb256, _, none⟩) NB258_256.out _).trans (((cell_far (p := ⟨gb256, _, none⟩) NB258_256.out _).trans (((cell_far (p := ⟨gb256, _, none⟩) NB258_256.out _).trans (((cell_far (p := ⟨gb256, _, none⟩) NB258_256.out _).trans (hHeld.2.2.2.1)))))))))), ((cell_far (p := ⟨gb256, _, none⟩) NB258_256.out _).trans (((cell_far (p := ⟨gb256, _, none⟩) NB258_256.out _).trans (((cell_far (p := ⟨gb256, _, none⟩) NB258_256.out _).trans (((cell_far (p := ⟨gb256, _, none⟩) NB258_256.out _).trans (((cell_far (p := ⟨gb256, _, none⟩) NB258_256.out _).trans (hHeld.2.2.2.2.1)))))))))), ((cell_far (p := ⟨gb256, _, none⟩) NB255_256.out _).trans (((cell_far (p := ⟨gb256, _, none⟩) NB255_256.out _).trans (((cell_far (p := ⟨gb256, _, none⟩) NB255_256.out _).trans (((cell_far (p := ⟨gb256, _, none⟩) NB255_256.out _).trans (((cell_far (p := ⟨gb256, _, none⟩) NB255_256.out _).trans (hHeld.2.2.2.2.2.1)))))))))), ((cell_far (p := ⟨gb256, _, none⟩) NB255_256.out _).trans (((cell_far (p := ⟨gb256, _, none⟩) NB255_256.out _).trans (((cell_far (p := ⟨gb256, _, none⟩) NB255_256.out _).trans (((cell_far (p := ⟨gb256, _, none⟩) NB255_256.out _).trans (((cell_far (p := ⟨gb256, _, none⟩) NB255_256.out _).trans (hHeld.2.2.2.2.2.2.1)))))))))), ((cell_far (p := ⟨gb256, _, none⟩) NB255_256.out _).trans (((cell_far (p := ⟨gb256, _, none⟩) NB255_256.out _).trans (((cell_far (p := ⟨gb256, _, none⟩) NB255_256.out _).trans (((cell_far (p := ⟨gb256, _, none⟩) NB255_256.out _).trans (((cell_far (p := ⟨gb256, _, none⟩) NB255_256.out _).trans (hHeld.2.2.2.2.2.2.2.1)))))))))), ((cell_far (p := ⟨gb256, _, none⟩) NB255_256.out _).trans (((cell_far (p := ⟨gb256, _, none⟩) NB255_256.out _).trans (((cell_far (p := ⟨gb256, _, none⟩) NB255_256.out _).trans (((cell_far (p := ⟨gb256, _, none⟩) NB255_256.out _).trans (((cell_far (p := ⟨gb256, _, none⟩) NB255_256.out _).trans (hHeld.2.2.2.2.2.2.2.2.1)))))))))), ((cell_far (p := ⟨gb256, _, none⟩) NB255_256.out _).trans (((cell_far (p := ⟨gb256, _, none⟩) NB255_256.out _).trans (((cell_far (p := ⟨gb256, _, none⟩) NB255_256.out _).trans (((cell_far (p := ⟨gb256, _, none⟩) NB255_256.out _).trans (((cell_far (p := ⟨gb256, _, none⟩) NB255_256.out _).trans (hHeld.2.2.2.2.2.2.2.2.2))))))))))⟩ (fun hHeld => ?_)
                      clear hK K
                      refine pure_ (i := 13) (N := some 7) (v := ?_) (a' := ?_) #[true, true, true, true, true, true, true, true, true, true, true, true, true, true, false] rfl rfl (any_of HT_.out (by kernel_rfl)) (fun _ _ _ h => h) (Or.inl ⟨by rfl, ?_⟩) ?_ ?_
                      rotate_left
                      · intro w'
                        go_simp
                        with_reducible rfl
                      rotate_left
                      · simp only [Act.put, List.setIfInBounds_toArray, List.set_cons_zero, List.set_cons_succ, i64_w, i32_w]
                        rfl
                      refine pure_ (i := 14) (N := some 8) (v := ?_) (a' := ?_) #[true, true, true, true, true, true, true, true, true, true, true, true, true, true, true] rfl rfl (any_of HT_.out (by kernel_rfl)) (fun _ _ _ h => h) (Or.inl ⟨by rfl, ?_⟩) ?_ ?_
                      rotate_left
                      · intro w'
                        go_simp
                        with_reducible rfl
                      rotate_left
                      · simp only [Act.put, List.setIfInBounds_toArray, List.set_cons_zero, List.set_cons_succ, i64_w, i32_w]
                        rfl
                      refine done_ (done_of HT_.out (by kernel_rfl)) ?_
                      try go_wp2
                      refine bodyPost_ret (results_ctt rfl _ _ gb256 24 #[.int .i64 a0_0, .int .i64 a0_1, .int .i64 a1, .int .i64 a0_3, .slice Ao40 t259.length co40] (0, 0) _ rfl (by (with_reducible repeat (first | refine blk_drewN ?_ _ | refine blk_drew ?_ | refine blk_alloc ?_ _)); refine blk_put (cs := #[.int .i64 a0_0, .int .i64 a0_1, .int .i64 a1, .int .i64 a0_3, .slice none 0 0]) ?_ 4 _ rfl; (with_reducible repeat (first | refine blk_drewN ?_ _ | refine blk_drew ?_ | refine blk_alloc ?_ _)); refine blk_put (cs := #[.int .i64 a0_0, .int .i64 a0_1, .int .i64 a1, .int .i64 0, .slice none 0 0]) ?_ 3 _ rfl; (with_reducible repeat (first | refine blk_drewN ?_ _ | refine blk_drew ?_ | refine blk_alloc ?_ _)); refine blk_put (cs := #[.int .i64 a0_0, .int .i64 a0_1, .int .i64 0, .int .i64 0, .slice none 0 0]) ?_ 2 _ rfl; (with_reducible repeat (first | refine blk_drewN ?_ _ | refine blk_drew ?_ | refine blk_alloc ?_ _)); refine blk_put (cs := #[.int .i64 a0_0, .int .i64 0, .int .i64 0, .int .i64 0, .slice none 0 0]) ?_ 1 _ rfl; (with_reducible repeat (first | refine blk_drewN ?_ _ | refine blk_drew ?_ | refine blk_alloc ?_ _)); refine blk_put (cs := #[.int .i64 0, .int .i64 0, .int .i64 0, .int .i64 0, .slice none 0 0]) ?_ 0 _ rfl; (with_reducible repeat (first | refine blk_drewN ?_ _ | refine blk_drew ?_ | refine blk_alloc ?_ _)); exact BK256.out) Try.underlying24 rfl (by kernel_rfl)) rfl ?_
                      exact ⟨_, by first | rfl | (simp [errW_none, errW_some] <;> rfl) | (simp [*, errW_none, errW_some] <;> rfl), by (with_reducible repeat (first | apply Kd.R_alloc | apply Kd.R_drewN | apply Kd.R_drew)); exact Kd.R_mono (Kd.R_far (p := ⟨gb256, 4, none⟩) (Kd.R_far (p := ⟨gb256, 3, none⟩) (Kd.R_far (p := ⟨gb256, 2, none⟩) (Kd.R_far (p := ⟨gb256, 1, none⟩) (Kd.R_far (p := ⟨gb256, 0, none⟩) (Kd.R_types HO261.out BK256.out (by decide)) (fun _ hk => hk.2) (.int .i64 a0_0)) (fun _ hk => hk.2) (.int .i64 a0_1)) (fun _ hk => hk.2) (.int .i64 a1)) (fun _ hk => hk.2) (.int .i64 a0_3)) (fun _ hk => hk.2) (.slice Ao40 t259.length co40)) (fun _ hk => trivial), by repeat (first | (with_reducible first | exact HB.out | apply below_alloc | apply pw_below_drewN | apply below_drew1 | refine below_set ?_ GE255.out | refine below_set ?_ GE256.out | refine below_set ?_ GE258.out) | exact HB.out)⟩
                  · rw [if_neg c30] at H
                    have c30b0 : decide ((wrap64 (a0_1 * a0_0)) < (wrap64 (a0_3 + a2))) = false := decide_eq_false c30
                    clear c30
                    replace H := Option.bind_eq_some_iff.mp H
                    obtain ⟨t262, A500, H⟩ := H
                    replace H : (if (wrap64 (t262 + a2)) > 1073741824 then (some (0, 0, 0, 0, ([] : List (S71)), 0, 11)) else ((standbyref33_Total.f a0_0 a0_1 a0_2 a0_3 l0_4).bind fun t263 => (if (t259.length : Int) > 0 then (if 0 ≤ (wrap64 ((t259.length : Int) - 1)) then (if (wrap64 ((t259.length : Int) - 1)) < (t259.length : Int) then (standbyref33_Write.j2 kj19 a1 a2 (wrap64 (t262 + a2)) (wrap64 (t263 - a0_3)) (t259.length : Int) (((rd_T71 t259 (wrap64 ((t259.length : Int) - 1))).f0) == a1) a0_0 a0_1 a0_2 a0_3 l0_4 a0_0 a0_1 a1 a0_3 t259) else (none)) else (none)) else (standbyref33_Write.j2 kj19 a1 a2 (wrap64 (t262 + a2)) (wrap64 (t263 - a0_3)) (t259.length : Int) false a0_0 a0_1 a0_2 a0_3 l0_4 a0_0 a0_1 a1 a0_3 t259)))) = some (r1, r2, r3, r4, r5, r6, r7) := H
                    have A50 := Aside0.mk A500
                    clear A500
                    by_cases c51 : (wrap64 (t262 + a2)) > 1073741824
                    · rw [if_pos c51] at H
                      have c51b0 : decide (1073741824 < (wrap64 (t262 + a2))) = true := decide_eq_true c51
                      clear c51
                      simp only [Option.some.injEq, Prod.mk.injEq] at H
                      obtain ⟨rfl, rfl, rfl, rfl, rfl, rfl, rfl⟩ := H
                      have hnb52 := NB255_256.out
                      have hnc52 := NB256_255.out
                      have hcz53_0 : wc.cell? ⟨gb255, 0, none⟩ = some (.int .i64 a0_0) := (blk_cell BK255.out 0).trans rfl
                      have hcz53_1 : wc.cell? ⟨gb255, 1, none⟩ = some (.int .i64 a0_1) := (blk_cell BK255.out 1).trans rfl
                      have hcz53_2 : wc.cell? ⟨gb255, 2, none⟩ = some (.int .i64 a0_2) := (blk_cell BK255.out 2).trans rfl
                      have hcz53_3 : wc.cell? ⟨gb255, 3, none⟩ = some (.int .i64 a0_3) := (blk_cell BK255.out 3).trans rfl
                      have hcz53_4 : wc.cell? ⟨gb255, 4, none⟩ = some (.slice A0_4 l0_4.length c0_4) := (blk_cell BK255.out 4).trans rfl
                      have hfz53_0 := blk_frozen BK255.out 0
                      have hfz53_1 := blk_frozen BK255.out 1
                      have hfz53_2 := blk_frozen BK255.out 2
                      have hfz53_3 := blk_frozen BK255.out 3
                      have hfz53_4 := blk_frozen BK255.out 4
                      go_wp2_with (first | ((with_reducible refine gate_dst (N := 10) rfl ?_); refine box_event ?hg (N := 10) ?hd (cs := #[.int .i64 0, .int .i64 0, .int .i64 0, .int .i64 0, .slice none 0 0]) (t := 24) ?hr ?_; (case hd => rfl); (case hg => rfl); (case hr => first | (go_simp; done) | (go_simp; rfl)); intro gb258 hg w54 hbox hb; have n0_ := Aside0.mk (blk_below (g := gb255) (o := .cells #[.int .i64 a0_0, .int .i64 a0_1, .int .i64 a0_2, .int .i64 a0_3, .slice A0_4 l0_4.length c0_4] 24 (0, 0)) (by (with_reducible repeat (first | refine blk_drewN ?_ _ | refine blk_drew ?_ | refine blk_alloc ?_ _)); exact BK255.out) hb); have n1_ := Aside0.mk (blk_below (g := gb256) (o := .cells #[.int .i64 0, .int .i64 0, .int .i64 0, .int .i64 0, .slice none 0 0] 24 (0, 0)) (by (with_reducible repeat (first | refine blk_drewN ?_ _ | refine blk_drew ?_ | refine blk_alloc ?_ _)); exact BK256.out) hb); have n2_ := Aside0.mk (below_step (by repeat (first | (with_reducible first | exact HB.out | apply below_alloc | apply pw_below_drewN | apply below_drew1 | refine below_set ?_ GE255.out | refine below_set ?_ GE256.out) | exact HB.out)) hb); have n3_ := Aside0.mk (hbox); have n4_ := Aside0.mk ((by rw [hg]; exact (below_size (by repeat (first | (with_reducible first | exact HB.out | apply below_alloc | apply pw_below_drewN | apply below_drew1 | refine below_set ?_ GE255.out | refine below_set ?_ GE256.out) | exact HB.out))) : w.heap.size ≤ gb258)); have n5_ := Aside0.mk ((by rw [hg]; exact (below_size (by repeat (first | (with_reducible first | exact HB.out | apply below_alloc | apply pw_below_drewN | apply below_drew1 | refine below_set ?_ GE255.out | refine below_set ?_ GE256.out) | exact HB.out))) : w.heap.size ≤ gb258)); have n6_ := Aside0.mk ((by rw [hg]; exact Nat.ne_of_lt (blk_lt (g := gb255) (o := .cells #[.int .i64 a0_0, .int .i64 a0_1, .int .i64 a0_2, .int .i64 a0_3, .slice A0_4 l0_4.length c0_4] 24 (0, 0)) (by (with_reducible repeat (first | refine blk_drewN ?_ _ | refine blk_drew ?_ | refine blk_alloc ?_ _)); exact BK255.out)) : gb255 ≠ gb258)); have n7_ := Aside0.mk ((by rw [hg]; exact Nat.ne_of_gt (blk_lt (g := gb255) (o := .cells #[.int .i64 a0_0, .int .i64 a0_1, .int .i64 a0_2, .int .i64 a0_3, .slice A0_4 l0_4.length c0_4] 24 (0, 0)) (by (with_reducible repeat (first | refine blk_drewN ?_ _ | refine blk_drew ?_ | refine blk_alloc ?_ _)); exact BK255.out)) : gb258 ≠ gb255)); have n8_ := Aside0.mk ((by rw [hg]; exact Nat.ne_of_lt (blk_lt (g := gb256) (o := .cells #[.int .i64 0, .int .i64 0, .int .i64 0, .int .i64 0, .slice none 0 0] 24 (0, 0)) (by (with_reducible repeat (first | refine blk_drewN ?_ _ | refine blk_drew ?_ | refine blk_alloc ?_ _)); exact BK256.out)) : gb256 ≠ gb258)); have n9_ := Aside0.mk ((by rw [hg]; exact Nat.ne_of_gt (blk_lt (g := gb256) (o := .cells #[.int .i64 0, .int .i64 0, .int .i64 0, .int .i64 0, .slice none 0 0] 24 (0, 0)) (by (with_reducible repeat (first | refine blk_drewN ?_ _ | refine blk_drew ?_ | refine blk_alloc ?_ _)); exact BK256.out)) : gb258 ≠ gb256)); clear BK255; clear BK256; clear HB; have BK255 := n0_; have BK256 := n1_; have HB := n2_; have BK258 := n3_; have GW258 := n4_; have GE258 := n5_; have NB255_258 := n6_; have NB258_255 := n7_; have NB256_258 := n8_; have NB258_256 := n9_; clear n0_ n1_ n2_ n3_ n4_ n5_ n6_ n7_ n8_ n9_; clear hb hbox hg; have hnb55 := NB258_255.out; have hnc55 := NB255_258.out; have hnb56 := NB258_256.out; have hnc56 := NB256_258.out; have hcz57_0 : w54.cell? ⟨gb258, 0, none⟩ = some (.int .i64 0) := (blk_cell BK258.out 0).trans rfl; have hcz57_1 : w54.cell? ⟨gb258, 1, none⟩ = some (.int .i64 0) := (blk_cell BK258.out 1).trans rfl; have hcz57_2 : w54.cell? ⟨gb258, 2, none⟩ = some (.int .i64 0) := (blk_cell BK258.out 2).trans rfl; have hcz57_3 : w54.cell? ⟨gb258, 3, none⟩ = some (.int .i64 0) := (blk_cell BK258.out 3).trans rfl; have hcz57_4 : w54.cell? ⟨gb258, 4, none⟩ = some (.slice none 0 0) := (blk_cell BK258.out 4).trans rfl; have hfz57_0 := blk_frozen BK258.out 0; have hfz57_1 := blk_frozen BK258.out 1; have hfz57_2 := blk_frozen BK258.out 2; have hfz57_3 := blk_frozen BK258.out 3; have hfz57_4 := blk_frozen BK258.out 4; have hcz58_0 : w54.cell? ⟨gb255, 0, none⟩ = some (.int .i64 a0_0) := (blk_cell BK255.out 0).trans rfl; have hcz58_1 : w54.cell? ⟨gb255, 1, none⟩ = some (.int .i64 a0_1) := (blk_cell BK255.out 1).trans rfl; have hcz58_2 : w54.cell? ⟨gb255, 2, none⟩ = some (.int .i64 a0_2) := (blk_cell BK255.out 2).trans rfl; have hcz58_3 : w54.cell? ⟨gb255, 3, none⟩ = some (.int .i64 a0_3) := (blk_cell BK255.out 3).trans rfl; have hcz58_4 : w54.cell? ⟨gb255, 4, none⟩ = some (.slice A0_4 l0_4.length c0_4) := (blk_cell BK255.out 4).trans rfl; have hfz58_0 := blk_frozen BK255.out 0; have hfz58_1 := blk_frozen BK255.out 1; have hfz58_2 := blk_frozen BK255.out 2; have hfz58_3 := blk_frozen BK255.out 3; have hfz58_4 := blk_frozen BK255.out 4) | ((with_reducible refine gate_callee (f := 34) rfl ?_); refine goesL_ (some 50) rfl rfl Try.func34 (by kernel_rfl) rfl #[.slice A0_4 l0_4.length c0_4, .int .i64 0] rfl (by (try simp only [List.map_toArray, List.map_cons, List.map_nil]); first | done | rfl | (simp only [List.length_drop, List.length_take]; rfl)) ?_; (with_reducible refine (standbyref33_tidy.calls kj19 _ _ l0_4 0 t259 _ ?side1 ?side2 A29.out).mono ?_); (case side1 => exact Kd.C_below HR0_4.out (by repeat (first | (with_reducible first | exact HB.out | apply below_alloc | apply pw_below_drewN | apply below_drew1 | refine below_set ?_ GE255.out | refine below_set ?_ GE256.out | refine below_set ?_ GE258.out) | exact HB.out))); (case side2 => exact HC0_4.out); rintro e w59 ⟨v260, rfl, ho0, hb⟩; refine ⟨_, rfl, ?_⟩; have n0_ := Aside0.mk (Kd.R_lower ho0 (below_size (by repeat (first | (with_reducible first | exact HB.out | apply below_alloc | apply pw_below_drewN | apply below_drew1 | refine below_set ?_ GE255.out | refine below_set ?_ GE256.out | refine below_set ?_ GE258.out) | exact HB.out)))); have n1_ := Aside0.mk (blk_below (g := gb255) (o := .cells #[.int .i64 a0_0, .int .i64 a0_1, .int .i64 a0_2, .int .i64 a0_3, .slice A0_4 l0_4.length c0_4] 24 (0, 0)) (by (with_reducible repeat (first | refine blk_drewN ?_ _ | refine blk_drew ?_ | refine blk_alloc ?_ _)); refine blk_far ?_ NB255_258.out _; (with_reducible repeat (first | refine blk_drewN ?_ _ | refine blk_drew ?_ | refine blk_alloc ?_ _)); refine blk_far ?_ NB255_258.out _; (with_reducible repeat (first | refine blk_drewN ?_ _ | refine blk_drew ?_ | refine blk_alloc ?_ _)); refine blk_far ?_ NB255_258.out _; (with_reducible repeat (first | refine blk_drewN ?_ _ | refine blk_drew ?_ | refine blk_alloc ?_ _)); refine blk_far ?_ NB255_258.out _; (with_reducible repeat (first | refine blk_drewN ?_ _ | refine blk_drew ?_ | refine blk_alloc ?_ _)); refine blk_far ?_ NB255_258.out _; (with_reducible repeat (first | refine blk_drewN ?_ _ | refine blk_drew ?_ | refine blk_alloc ?_ _)); refine blk_far ?_ NB255_258.out _; (with_reducible repeat (first | refine blk_drewN ?_ _ | refine blk_drew ?_ | refine blk_alloc ?_ _)); exact BK255.out) hb); have n2_ := Aside0.mk (blk_below (g := gb256) (o := .cells #[.int .i64 0, .int .i64 0, .int .i64 0, .int .i64 0, .slice none 0 0] 24 (0, 0)) (by (with_reducible repeat (first | refine blk_drewN ?_ _ | refine blk_drew ?_ | refine blk_alloc ?_ _)); refine blk_far ?_ NB256_258.out _; (with_reducible repeat (first | refine blk_drewN ?_ _ | refine blk_drew ?_ | refine blk_alloc ?_ _)); refine blk_far ?_ NB256_258.out _; (with_reducible repeat (first | refine blk_drewN ?_ _ | refine blk_drew ?_ | refine blk_alloc ?_ _)); refine blk_far ?_ NB256_258.out _; (with_reducible repeat (first | refine blk_drewN ?_ _ | refine blk_drew ?_ | refine blk_alloc ?_ _)); refine blk_far ?_ NB256_258.out _; (with_reducible repeat (first | refine blk_drewN ?_ _ | refine blk_drew ?_ | refine blk_alloc ?_ _)); refine blk_far ?_ NB256_258.out _; (with_reducible repeat (first | refine blk_drewN ?_ _ | refine blk_drew ?_ | refine blk_alloc ?_ _)); refine blk_far ?_ NB256_258.out _; (with_reducible repeat (first | refine blk_drewN ?_ _ | refine blk_drew ?_ | refine blk_alloc ?_ _)); exact BK256.out) hb); have n3_ := Aside0.mk (blk_below (g := gb258) (o := .cells #[.int .i64 a0_0, .int .i64 a0_1, .int .i64 a1, .int .i64 a0_3, .slice A0_4 l0_4.length c0_4] 24 (0, 0)) (by (with_reducible repeat (first | refine blk_drewN ?_ _ | refine blk_drew ?_ | refine blk_alloc ?_ _)); refine blk_put (cs := #[.int .i64 a0_0, .int .i64 a0_1, .int .i64 a0_2, .int .i64 a0_3, .slice A0_4 l0_4.length c0_4]) ?_ 2 _ rfl; (with_reducible repeat (first | refine blk_drewN ?_ _ | refine blk_drew ?_ | refine blk_alloc ?_ _)); refine blk_put (cs := #[.int .i64 a0_0, .int .i64 a0_1, .int .i64 a0_2, .int .i64 a0_3, .slice none 0 0]) ?_ 4 _ rfl; (with_reducible repeat (first | refine blk_drewN ?_ _ | refine blk_drew ?_ | refine blk_alloc ?_ _)); refine blk_put (cs := #[.int .i64 a0_0, .int .i64 a0_1, .int .i64 a0_2, .int .i64 0, .slice none 0 0]) ?_ 3 _ rfl; (with_reducible repeat (first | refine blk_drewN ?_ _ | refine blk_drew ?_ | refine blk_alloc ?_ _)); refine blk_put (cs := #[.int .i64 a0_0, .int .i64 a0_1, .int .i64 0, .int .i64 0, .slice none 0 0]) ?_ 2 _ rfl; (with_reducible repeat (first | refine blk_drewN ?_ _ | refine blk_drew ?_ | refine blk_alloc ?_ _)); refine blk_put (cs := #[.int .i64 a0_0, .int .i64 0, .int .i64 0, .int .i64 0, .slice none 0 0]) ?_ 1 _ rfl; (with_reducible repeat (first | refine blk_drewN ?_ _ | refine blk_drew ?_ | refine blk_alloc ?_ _)); refine blk_put (cs := #[.int .i64 0, .int .i64 0, .int .i64 0, .int .i64 0, .slice none 0 0]) ?_ 0 _ rfl; (with_reducible repeat (first | refine blk_drewN ?_ _ | refine blk_drew ?_ | refine blk_alloc ?_ _)); exact BK258.out) hb); have n4_ := Aside0.mk (below_step (by repeat (first | (with_reducible first | exact HB.out | apply below_alloc | apply pw_below_drewN | apply below_drew1 | refine below_set ?_ GE255.out | refine below_set ?_ GE256.out | refine below_set ?_ GE258.out) | exact HB.out)) hb); clear BK255; clear BK256; clear BK258; clear HB; have HO261 := n0_; have BK255 := n1_; have BK256 := n2_; have BK258 := n3_; have HB := n4_; clear n0_ n1_ n2_ n3_ n4_; (try clear hb); (try clear hb2); (try clear hk); (try clear hi); (try clear ho0); obtain ⟨Ao60, co60, eo60⟩ := Kd.R_slice HO261.out; subst eo60; have hcz61_0 : w59.cell? ⟨gb258, 0, none⟩ = some (.int .i64 a0_0) := (blk_cell BK258.out 0).trans rfl; have hcz61_1 : w59.cell? ⟨gb258, 1, none⟩ = some (.int .i64 a0_1) := (blk_cell BK258.out 1).trans rfl; have hcz61_2 : w59.cell? ⟨gb258, 2, none⟩ = some (.int .i64 a1) := (blk_cell BK258.out 2).trans rfl; have hcz61_3 : w59.cell? ⟨gb258, 3, none⟩ = some (.int .i64 a0_3) := (blk_cell BK258.out 3).trans rfl; have hcz61_4 : w59.cell? ⟨gb258, 4, none⟩ = some (.slice A0_4 l0_4.length c0_4) := (blk_cell BK258.out 4).trans rfl; have hfz61_0 := blk_frozen BK258.out 0; have hfz61_1 := blk_frozen BK258.out 1; have hfz61_2 := blk_frozen BK258.out 2; have hfz61_3 := blk_frozen BK258.out 3; have hfz61_4 := blk_frozen BK258.out 4; have hcz62_0 : w59.cell? ⟨gb255, 0, none⟩ = some (.int .i64 a0_0) := (blk_cell BK255.out 0).trans rfl; have hcz62_1 : w59.cell? ⟨gb255, 1, none⟩ = some (.int .i64 a0_1) := (blk_cell BK255.out 1).trans rfl; have hcz62_2 : w59.cell? ⟨gb255, 2, none⟩ = some (.int .i64 a0_2) := (blk_cell BK255.out 2).trans rfl; have hcz62_3 : w59.cell? ⟨gb255, 3, none⟩ = some (.int .i64 a0_3) := (blk_cell BK255.out 3).trans rfl; have hcz62_4 : w59.cell? ⟨gb255, 4, none⟩ = some (.slice A0_4 l0_4.length c0_4) := (blk_cell BK255.out 4).trans rfl; have hfz62_0 := blk_frozen BK255.out 0; have hfz62_1 := blk_frozen BK255.out 1; have hfz62_2 := blk_frozen BK255.out 2; have hfz62_3 := blk_frozen BK255.out 3; have hfz62_4 := blk_frozen BK255.out 4) | ((with_reducible refine gate_callee (f := 35) rfl ?_); refine goesL_ (some 76) rfl rfl Try.func35 (by kernel_rfl) rfl #[.agg #[.int .i64 a0_0, .int .i64 a0_1, .int .i64 a0_2, .int .i64 a0_3, .slice A0_4 l0_4.length c0_4]] rfl (by (try simp only [List.map_toArray, List.map_cons, List.map_nil]); first | done | rfl | (simp only [List.length_drop, List.length_take]; rfl)) ?_; (with_reducible refine (standbyref33_Total.calls a0_0 a0_1 a0_2 a0_3 _ _ l0_4 t262 _ ?side1 ?side2 A50.out).mono ?_); (case side1 => exact Kd.C_below HR0_4.out (by repeat (first | (with_reducible first | exact HB.out | apply below_alloc | apply pw_below_drewN | apply below_drew1 | refine below_set ?_ GE255.out | refine below_set ?_ GE256.out | refine below_set ?_ GE258.out) | exact HB.out))); (case side2 => exact HC0_4.out); rintro e w63 ⟨rfl, hb⟩; refine ⟨_, rfl, ?_⟩; have n0_ := Aside0.mk (Kd.R_below (by (with_reducible repeat (first | apply Kd.R_alloc | apply Kd.R_drewN | apply Kd.R_drew)); exact (Kd.R_mono (Kd.R_far (p := ⟨gb258, 4, none⟩) (Kd.R_types HO261.out BK258.out (by decide)) (fun _ hk => hk.2) (.slice Ao60 t259.length co60)) (fun _ h_ => h_.1))) hb); have n1_ := Aside0.mk (blk_below (g := gb255) (o := .cells #[.int .i64 a0_0, .int .i64 a0_1, .int .i64 a0_2, .int .i64 a0_3, .slice A0_4 l0_4.length c0_4] 24 (0, 0)) (by (with_reducible repeat (first | refine blk_drewN ?_ _ | refine blk_drew ?_ | refine blk_alloc ?_ _)); refine blk_far ?_ NB255_258.out _; (with_reducible repeat (first | refine blk_drewN ?_ _ | refine blk_drew ?_ | refine blk_alloc ?_ _)); exact BK255.out) hb); have n2_ := Aside0.mk (blk_below (g := gb256) (o := .cells #[.int .i64 0, .int .i64 0, .int .i64 0, .int .i64 0, .slice none 0 0] 24 (0, 0)) (by (with_reducible repeat (first | refine blk_drewN ?_ _ | refine blk_drew ?_ | refine blk_alloc ?_ _)); refine blk_far ?_ NB256_258.out _; (with_reducible repeat (first | refine blk_drewN ?_ _ | refine blk_drew ?_ | refine blk_alloc ?_ _)); exact BK256.out) hb); have n3_ := Aside0.mk (blk_below (g := gb258) (o := .cells #[.int .i64 a0_0, .int .i64 a0_1, .int .i64 a1, .int .i64 a0_3, .slice Ao60 t259.length co60] 24 (0, 0)) (by (with_reducible repeat (first | refine blk_drewN ?_ _ | refine blk_drew ?_ | refine blk_alloc ?_ _)); refine blk_put (cs := #[.int .i64 a0_0, .int .i64 a0_1, .int .i64 a1, .int .i64 a0_3, .slice A0_4 l0_4.length c0_4]) ?_ 4 _ rfl; (with_reducible repeat (first | refine blk_drewN ?_ _ | refine blk_drew ?_ | refine blk_alloc ?_ _)); exact BK258.out) hb); have n4_ := Aside0.mk (below_step (by repeat (first | (with_reducible first | exact HB.out | apply below_alloc | apply pw_below_drewN | apply below_drew1 | refine below_set ?_ GE255.out | refine below_set ?_ GE256.out | refine below_set ?_ GE258.out) | exact HB.out)) hb); clear HO261; clear BK255; clear BK256; clear BK258; clear HB; have HO261 := n0_; have BK255 := n1_; have BK256 := n2_; have BK258 := n3_; have HB := n4_; clear n0_ n1_ n2_ n3_ n4_; (try clear hb); (try clear hb2); (try clear hk); (try clear hi); have hcz64_0 : w63.cell? ⟨gb256, 0, none⟩ = some (.int .i64 0) := (blk_cell BK256.out 0).trans rfl; have hcz64_1 : w63.cell? ⟨gb256, 1, none⟩ = some (.int .i64 0) := (blk_cell BK256.out 1).trans rfl; have hcz64_2 : w63.cell? ⟨gb256, 2, none⟩ = some (.int .i64 0) := (blk_cell BK256.out 2).trans rfl; have hcz64_3 : w63.cell? ⟨gb256, 3, none⟩ = some (.int .i64 0) := (blk_cell BK256.out 3).trans rfl; have hcz64_4 : w63.cell? ⟨gb256, 4, none⟩ = some (.slice none 0 0) := (blk_cell BK256.out 4).trans rfl; have hfz64_0 := blk_frozen BK256.out 0; have hfz64_1 := blk_frozen BK256.out 1; have hfz64_2 := blk_frozen BK256.out 2; have hfz64_3 := blk_frozen BK256.out 3; have hfz64_4 := blk_frozen BK256.out 4))
                      refine bodyPost_ret (results_ctt rfl _ _ gb256 24 #[.int .i64 0, .int .i64 0, .int .i64 0, .int .i64 0, .slice none 0 0] (0, 0) _ rfl (by (with_reducible repeat (first | refine blk_drewN ?_ _ | refine blk_drew ?_ | refine blk_alloc ?_ _)); refine blk_put (cs := #[.int .i64 0, .int .i64 0, .int .i64 0, .int .i64 0, .slice none 0 0]) ?_ 4 _ rfl; (with_reducible repeat (first | refine blk_drewN ?_ _ | refine blk_drew ?_ | refine blk_alloc ?_ _)); refine blk_put (cs := #[.int .i64 0, .int .i64 0, .int .i64 0, .int .i64 0, .slice none 0 0]) ?_ 3 _ rfl; (with_reducible repeat (first | refine blk_drewN ?_ _ | refine blk_drew ?_ | refine blk_alloc ?_ _)); refine blk_put (cs := #[.int .i64 0, .int .i64 0, .int .i64 0, .int .i64 0, .slice none 0 0]) ?_ 2 _ rfl; (with_reducible repeat (first | refine blk_drewN ?_ _ | refine blk_drew ?_ | refine blk_alloc ?_ _)); refine blk_put (cs := #[.int .i64 0, .int .i64 0, .int .i64 0, .int .i64 0, .slice none 0 0]) ?_ 1 _ rfl; (with_reducible repeat (first | refine blk_drewN ?_ _ | refine blk_drew ?_ | refine blk_alloc ?_ _)); refine blk_put (cs := #[.int .i64 0, .int .i64 0, .int .i64 0, .int .i64 0, .slice none 0 0]) ?_ 0 _ rfl; (with_reducible repeat (first | refine blk_drewN ?_ _ | refine blk_drew ?_ | refine blk_alloc ?_ _)); exact BK256.out) Try.underlying24 rfl (by kernel_rfl)) rfl ?_
                      exact ⟨_, by first | rfl | (simp [errW_none, errW_some] <;> rfl) | (simp [*, errW_none, errW_some] <;> rfl), by first | exact Kd.R_nil _ _ _ _ _ | exact Kd.N_nil _ _ _ _ _ | exact Kd.V_nil _ _ _ _ _ | exact Kd.Q_nil _ _ _ _ _ | exact Kd.S_nil _ _ _ _ _, by repeat (first | (with_reducible first | exact HB.out | apply below_alloc | apply pw_below_drewN | apply below_drew1 | refine below_set ?_ GE255.out | refine below_set ?_ GE256.out | refine below_set ?_ GE258.out) | exact HB.out)⟩
                    · rw [if_neg c51] at H
                      have c51b0 : decide (1073741824 < (wrap64 (t262 + a2))) = false := decide_eq_false c51
                      clear c51
                      replace H := Option.bind_eq_some_iff.mp H
                      obtain ⟨t263, A650, H⟩ := H
                      replace H : (if (t259.length : Int) > 0 then (if 0 ≤ (wrap64 ((t259.length : Int) - 1)) then (if (wrap64 ((t259.length : Int) - 1)) < (t259.length : Int) then (standbyref33_Write.j2 kj19 a1 a2 (wrap64 (t262 + a2)) (wrap64 (t263 - a0_3)) (t259.length : Int) (((rd_T71 t259 (wrap64 ((t259.length : Int) - 1))).f0) == a1) a0_0 a0_1 a0_2 a0_3 l0_4 a0_0 a0_1 a1 a0_3 t259) else (none)) else (none)) else (standbyref33_Write.j2 kj19 a1 a2 (wrap64 (t262 + a2)) (wrap64 (t263 - a0_3)) (t259.length : Int) false a0_0 a0_1 a0_2 a0_3 l0_4 a0_0 a0_1 a1 a0_3 t259)) = some (r1, r2, r3, r4, r5, r6, r7) := H
                      have A65 := Aside0.mk A650
                      clear A650
                      have HC66 := Aside0.mk H
                      clear H
                      have hnb67 := NB255_256.out
                      have hnc67 := NB256_255.out
                      have hcz68_0 : wc.cell? ⟨gb255, 0, none⟩ = some (.int .i64 a0_0) := (blk_cell BK255.out 0).trans rfl
                      have hcz68_1 : wc.cell? ⟨gb255, 1, none⟩ = some (.int .i64 a0_1) := (blk_cell BK255.out 1).trans rfl
                      have hcz68_2 : wc.cell? ⟨gb255, 2, none⟩ = some (.int .i64 a0_2) := (blk_cell BK255.out 2).trans rfl
                      have hcz68_3 : wc.cell? ⟨gb255, 3, none⟩ = some (.int .i64 a0_3) := (blk_cell BK255.out 3).trans rfl
                      have hcz68_4 : wc.cell? ⟨gb255, 4, none⟩ = some (.slice A0_4 l0_4.length c0_4) := (blk_cell BK255.out 4).trans rfl
                      have hfz68_0 := blk_frozen BK255.out 0
                      have hfz68_1 := blk_frozen BK255.out 1
                      have hfz68_2 := blk_frozen BK255.out 2
                      have hfz68_3 := blk_frozen BK255.out 3
                      have hfz68_4 := blk_frozen BK255.out 4
                      try go_wp2_with (first | ((with_reducible refine gate_dst (N := 10) rfl ?_); refine box_event ?hg (N := 10) ?hd (cs := #[.int .i64 0, .int .i64 0, .int .i64 0, .int .i64 0, .slice none 0 0]) (t := 24) ?hr ?_; (case hd => rfl); (case hg => rfl); (case hr => first | (go_simp; done) | (go_simp; rfl)); intro gb258 hg w69 hbox hb; have n0_ := Aside0.mk (blk_below (g := gb255) (o := .cells #[.int .i64 a0_0, .int .i64 a0_1, .int .i64 a0_2, .int .i64 a0_3, .slice A0_4 l0_4.length c0_4] 24 (0, 0)) (by (with_reducible repeat (first | refine blk_drewN ?_ _ | refine blk_drew ?_ | refine blk_alloc ?_ _)); exact BK255.out) hb); have n1_ := Aside0.mk (blk_below (g := gb256) (o := .cells #[.int .i64 0, .int .i64 0, .int .i64 0, .int .i64 0, .slice none 0 0] 24 (0, 0)) (by (with_reducible repeat (first | refine blk_drewN ?_ _ | refine blk_drew ?_ | refine blk_alloc ?_ _)); exact BK256.out) hb); have n2_ := Aside0.mk (below_step (by repeat (first | (with_reducible first | exact HB.out | apply below_alloc | apply pw_below_drewN | apply below_drew1 | refine below_set ?_ GE255.out | refine below_set ?_ GE256.out) | exact HB.out)) hb); have n3_ := Aside0.mk (hbox); have n4_ := Aside0.mk ((by rw [hg]; exact (below_size (by repeat (first | (with_reducible first | exact HB.out | apply below_alloc | apply pw_below_drewN | apply below_drew1 | refine below_set ?_ GE255.out | refine below_set ?_ GE256.out) | exact HB.out))) : w.heap.size ≤ gb258)); have n5_ := Aside0.mk ((by rw [hg]; exact (below_size (by repeat (first | (with_reducible first | exact HB.out | apply below_alloc | apply pw_below_drewN | apply below_drew1 | refine below_set ?_ GE255.out | refine below_set ?_ GE256.out) | exact HB.out))) : w.heap.size ≤ gb258)); have n6_ := Aside0.mk ((by rw [hg]; exact Nat.ne_of_lt (blk_lt (g := gb255) (o := .cells #[.int .i64 a0_0, .int .i64 a0_1, .int .i64 a0_2, .int .i64 a0_3, .slice A0_4 l0_4.length c0_4] 24 (0, 0)) (by (with_reducible repeat (first | refine blk_drewN ?_ _ | refine blk_drew ?_ | refine blk_alloc ?_ _)); exact BK255.out)) : gb255 ≠ gb258)); have n7_ := Aside0.mk ((by rw [hg]; exact Nat.ne_of_gt (blk_lt (g := gb255) (o := .cells #[.int .i64 a0_0, .int .i64 a0_1, .int .i64 a0_2, .int .i64 a0_3, .slice A0_4 l0_4.length c0_4] 24 (0, 0)) (by (with_reducible repeat (first | refine blk_drewN ?_ _ | refine blk_drew ?_ | refine blk_alloc ?_ _)); exact BK255.out)) : gb258 ≠ gb255)); have n8_ := Aside0.mk ((by rw [hg]; exact Nat.ne_of_lt (blk_lt (g := gb256) (o := .cells #[.int .i64 0, .int .i64 0, .int .i64 0, .int .i64 0, .slice none 0 0] 24 (0, 0)) (by (with_reducible repeat (first | refine blk_drewN ?_ _ | refine blk_drew ?_ | refine blk_alloc ?_ _)); exact BK256.out)) : gb256 ≠ gb258)); have n9_ := Aside0.mk ((by rw [hg]; exact Nat.ne_of_gt (blk_lt (g := gb256) (o := .cells #[.int .i64 0, .int .i64 0, .int .i64 0, .int .i64 0, .slice none 0 0] 24 (0, 0)) (by (with_reducible repeat (first | refine blk_drewN ?_ _ | refine blk_drew ?_ | refine blk_alloc ?_ _)); exact BK256.out)) : gb258 ≠ gb256)); clear BK255; clear BK256; clear HB; have BK255 := n0_; have BK256 := n1_; have HB := n2_; have BK258 := n3_; have GW258 := n4_; have GE258 := n5_; have NB255_258 := n6_; have NB258_255 := n7_; have NB256_258 := n8_; have NB258_256 := n9_; clear n0_ n1_ n2_ n3_ n4_ n5_ n6_ n7_ n8_ n9_; clear hb hbox hg; have hnb70 := NB258_255.out; have hnc70 := NB255_258.out; have hnb71 := NB258_256.out; have hnc71 := NB256_258.out; have hcz72_0 : w69.cell? ⟨gb258, 0, none⟩ = some (.int .i64 0) := (blk_cell BK258.out 0).trans rfl; have hcz72_1 : w69.cell? ⟨gb258, 1, none⟩ = some (.int .i64 0) := (blk_cell BK258.out 1).trans rfl; have hcz72_2 : w69.cell? ⟨gb258, 2, none⟩ = some (.int .i64 0) := (blk_cell BK258.out 2).trans rfl; have hcz72_3 : w69.cell? ⟨gb258, 3, none⟩ = some (.int .i64 0) := (blk_cell BK258.out 3).trans rfl; have hcz72_4 : w69.cell? ⟨gb258, 4, none⟩ = some (.slice none 0 0) := (blk_cell BK258.out 4).trans rfl; have hfz72_0 := blk_frozen BK258.out 0; have hfz72_1 := blk_frozen BK258.out 1; have hfz72_2 := blk_frozen BK258.out 2; have hfz72_3 := blk_frozen BK258.out 3; have hfz72_4 := blk_frozen BK258.out 4; have hcz73_0 : w69.cell? ⟨gb255, 0, none⟩ = some (.int .i64 a0_0) := (blk_cell BK255.out 0).trans rfl; have hcz73_1 : w69.cell? ⟨gb255, 1, none⟩ = some (.int .i64 a0_1) := (blk_cell BK255.out 1).trans rfl; have hcz73_2 : w69.cell? ⟨gb255, 2, none⟩ = some (.int .i64 a0_2) := (blk_cell BK255.out 2).trans rfl; have hcz73_3 : w69.cell? ⟨gb255, 3, none⟩ = some (.int .i64 a0_3) := (blk_cell BK255.out 3).trans rfl; have hcz73_4 : w69.cell? ⟨gb255, 4, none⟩ = some (.slice A0_4 l0_4.length c0_4) := (blk_cell BK255.out 4).trans rfl; have hfz73_0 := blk_frozen BK255.out 0; have hfz73_1 := blk_frozen BK255.out 1; have hfz73_2 := blk_frozen BK255.out 2; have hfz73_3 := blk_frozen BK255.out 3; have hfz73_4 := blk_frozen BK255.out 4) | ((with_reducible refine gate_callee (f := 34) rfl ?_); refine goesL_ (some 50) rfl rfl Try.func34 (by kernel_rfl) rfl #[.slice A0_4 l0_4.length c0_4, .int .i64 0] rfl (by (try simp only [List.map_toArray, List.map_cons, List.map_nil]); first | done | rfl | (simp only [List.length_drop, List.length_take]; rfl)) ?_; (with_reducible refine (standbyref33_tidy.calls kj19 _ _ l0_4 0 t259 _ ?side1 ?side2 A29.out).mono ?_); (case side1 => exact Kd.C_below HR0_4.out (by repeat (first | (with_reducible first | exact HB.out | apply below_alloc | apply pw_below_drewN | apply below_drew1 | refine below_set ?_ GE255.out | refine below_set ?_ GE256.out | refine below_set ?_ GE258.out) | exact HB.out))); (case side2 => exact HC0_4.out); rintro e w74 ⟨v260, rfl, ho0, hb⟩; refine ⟨_, rfl, ?_⟩; have n0_ := Aside0.mk (Kd.R_lower ho0 (below_size (by repeat (first | (with_reducible first | exact HB.out | apply below_alloc | apply pw_below_drewN | apply below_drew1 | refine below_set ?_ GE255.out | refine below_set ?_ GE256.out | refine below_set ?_ GE258.out) | exact HB.out)))); have n1_ := Aside0.mk (blk_below (g := gb255) (o := .cells #[.int .i64 a0_0, .int .i64 a0_1, .int .i64 a0_2, .int .i64 a0_3, .slice A0_4 l0_4.length c0_4] 24 (0, 0)) (by (with_reducible repeat (first | refine blk_drewN ?_ _ | refine blk_drew ?_ | refine blk_alloc ?_ _)); refine blk_far ?_ NB255_258.out _; (with_reducible repeat (first | refine blk_drewN ?_ _ | refine blk_drew ?_ | refine blk_alloc ?_ _)); refine blk_far ?_ NB255_258.out _; (with_reducible repeat (first | refine blk_drewN ?_ _ | refine blk_drew ?_ | refine blk_alloc ?_ _)); refine blk_far ?_ NB255_258.out _; (with_reducible repeat (first | refine blk_drewN ?_ _ | refine blk_drew ?_ | refine blk_alloc ?_ _)); refine blk_far ?_ NB255_258.out _; (with_reducible repeat (first | refine blk_drewN ?_ _ | refine blk_drew ?_ | refine blk_alloc ?_ _)); refine blk_far ?_ NB255_258.out _; (with_reducible repeat (first | refine blk_drewN ?_ _ | refine blk_drew ?_ | refine blk_alloc ?_ _)); refine blk_far ?_ NB255_258.out _; (with_reducible repeat (first | refine blk_drewN ?_ _ | refine blk_drew ?_ | refine blk_alloc ?_ _)); exact BK255.out) hb); have n2_ := Aside0.mk (blk_below (g := gb256) (o := .cells #[.int .i64 0, .int .i64 0, .int .i64 0, .int .i64 0, .slice none 0 0] 24 (0, 0)) (by (with_reducible repeat (first | refine blk_drewN ?_ _ | refine blk_drew ?_ | refine blk_alloc ?_ _)); refine blk_far ?_ NB256_258.out _; (with_reducible repeat (first | refine blk_drewN ?_ _ | refine blk_drew ?_ | refine blk_alloc ?_ _)); refine blk_far ?_ NB256_258.out _; (with_reducible repeat (first | refine blk_drewN ?_ _ | refine blk_drew ?_ | refine blk_alloc ?_ _)); refine blk_far ?_ NB256_258.out _; (with_reducible repeat (first | refine blk_drewN ?_ _ | refine blk_drew ?_ | refine blk_alloc ?_ _)); refine blk_far ?_ NB256_258.out _; (with_reducible repeat (first | refine blk_drewN ?_ _ | refine blk_drew ?_ | refine blk_alloc ?_ _)); refine blk_far ?_ NB256_258.out _; (with_reducible repeat (first | refine blk_drewN ?_ _ | refine blk_drew ?_ | refine blk_alloc ?_ _)); refine blk_far ?_ NB256_258.out _; (with_reducible repeat (first | refine blk_drewN ?_ _ | refine blk_drew ?_ | refine blk_alloc ?_ _)); exact BK256.out) hb); have n3_ := Aside0.mk (blk_below (g := gb258) (o := .cells #[.int .i64 a0_0, .int .i64 a0_1, .int .i64 a1, .int .i64 a0_3, .slice A0_4 l0_4.length c0_4] 24 (0, 0)) (by (with_reducible repeat (first | refine blk_drewN ?_ _ | refine blk_drew ?_ | refine blk_alloc ?_ _)); refine blk_put (cs := #[.int .i64 a0_0, .int .i64 a0_1, .int .i64 a0_2, .int .i64 a0_3, .slice A0_4 l0_4.length c0_4]) ?_ 2 _ rfl; (with_reducible repeat (first | refine blk_drewN ?_ _ | refine blk_drew ?_ | refine blk_alloc ?_ _)); refine blk_put (cs := #[.int .i64 a0_0, .int .i64 a0_1, .int .i64 a0_2, .int .i64 a0_3, .slice none 0 0]) ?_ 4 _ rfl; (with_reducible repeat (first | refine blk_drewN ?_ _ | refine blk_drew ?_ | refine blk_alloc ?_ _)); refine blk_put (cs := #[.int .i64 a0_0, .int .i64 a0_1, .int .i64 a0_2, .int .i64 0, .slice none 0 0]) ?_ 3 _ rfl; (with_reducible repeat (first | refine blk_drewN ?_ _ | refine blk_drew ?_ | refine blk_alloc ?_ _)); refine blk_put (cs := #[.int .i64 a0_0, .int .i64 a0_1, .int .i64 0, .int .i64 0, .slice none 0 0]) ?_ 2 _ rfl; (with_reducible repeat (first | refine blk_drewN ?_ _ | refine blk_drew ?_ | refine blk_alloc ?_ _)); refine blk_put (cs := #[.int .i64 a0_0, .int .i64 0, .int .i64 0, .int .i64 0, .slice none 0 0]) ?_ 1 _ rfl; (with_reducible repeat (first | refine blk_drewN ?_ _ | refine blk_drew ?_ | refine blk_alloc ?_ _)); refine blk_put (cs := #[.int .i64 0, .int .i64 0, .int .i64 0, .int .i64 0, .slice none 0 0]) ?_ 0 _ rfl; (with_reducible repeat (first | refine blk_drewN ?_ _ | refine blk_drew ?_ | refine blk_alloc ?_ _)); exact BK258.out) hb); have n4_ := Aside0.mk (below_step (by repeat (first | (with_reducible first | exact HB.out | apply below_alloc | apply pw_below_drewN | apply below_drew1 | refine below_set ?_ GE255.out | refine below_set ?_ GE256.out | refine below_set ?_ GE258.out) | exact HB.out)) hb); clear BK255; clear BK256; clear BK258; clear HB; have HO261 := n0_; have BK255 := n1_; have BK256 := n2_; have BK258 := n3_; have HB := n4_; clear n0_ n1_ n2_ n3_ n4_; (try clear hb); (try clear hb2); (try clear hk); (try clear hi); (try clear ho0); obtain ⟨Ao75, co75, eo75⟩ := Kd.R_slice HO261.out; subst eo75; have hcz76_0 : w74.cell? ⟨gb258, 0, none⟩ = some (.int .i64 a0_0) := (blk_cell BK258.out 0).trans rfl; have hcz76_1 : w74.cell? ⟨gb258, 1, none⟩ = some (.int .i64 a0_1) := (blk_cell BK258.out 1).trans rfl; have hcz76_2 : w74.cell? ⟨gb258, 2, none⟩ = some (.int .i64 a1) := (blk_cell BK258.out 2).trans rfl; have hcz76_3 : w74.cell? ⟨gb258, 3, none⟩ = some (.int .i64 a0_3) := (blk_cell BK258.out 3).trans rfl; have hcz76_4 : w74.cell? ⟨gb258, 4, none⟩ = some (.slice A0_4 l0_4.length c0_4) := (blk_cell BK258.out 4).trans rfl; have hfz76_0 := blk_frozen BK258.out 0; have hfz76_1 := blk_frozen BK258.out 1; have hfz76_2 := blk_frozen BK258.out 2; have hfz76_3 := blk_frozen BK258.out 3; have hfz76_4 := blk_frozen BK258.out 4; have hcz77_0 : w74.cell? ⟨gb255, 0, none⟩ = some (.int .i64 a0_0) := (blk_cell BK255.out 0).trans rfl; have hcz77_1 : w74.cell? ⟨gb255, 1, none⟩ = some (.int .i64 a0_1) := (blk_cell BK255.out 1).trans rfl; have hcz77_2 : w74.cell? ⟨gb255, 2, none⟩ = some (.int .i64 a0_2) := (blk_cell BK255.out 2).trans rfl; have hcz77_3 : w74.cell? ⟨gb255, 3, none⟩ = some (.int .i64 a0_3) := (blk_cell BK255.out 3).trans rfl; have hcz77_4 : w74.cell? ⟨gb255, 4, none⟩ = some (.slice A0_4 l0_4.length c0_4) := (blk_cell BK255.out 4).trans rfl; have hfz77_0 := blk_frozen BK255.out 0; have hfz77_1 := blk_frozen BK255.out 1; have hfz77_2 := blk_frozen BK255.out 2; have hfz77_3 := blk_frozen BK255.out 3; have hfz77_4 := blk_frozen BK255.out 4) | ((with_reducible refine gate_callee (f := 35) rfl ?_); refine goesL_ (some 76) rfl rfl Try.func35 (by kernel_rfl) rfl #[.agg #[.int .i64 a0_0, .int .i64 a0_1, .int .i64 a0_2, .int .i64 a0_3, .slice A0_4 l0_4.length c0_4]] rfl (by (try simp only [List.map_toArray, List.map_cons, List.map_nil]); first | done | rfl | (simp only [List.length_drop, List.length_take]; rfl)) ?_; (with_reducible refine (standbyref33_Total.calls a0_0 a0_1 a0_2 a0_3 _ _ l0_4 t262 _ ?side1 ?side2 A50.out).mono ?_); (case side1 => exact Kd.C_below HR0_4.out (by repeat (first | (with_reducible first | exact HB.out | apply below_alloc | apply pw_below_drewN | apply below_drew1 | refine below_set ?_ GE255.out | refine below_set ?_ GE256.out | refine below_set ?_ GE258.out) | exact HB.out))); (case side2 => exact HC0_4.out); rintro e w78 ⟨rfl, hb⟩; refine ⟨_, rfl, ?_⟩; have n0_ := Aside0.mk (Kd.R_below (by (with_reducible repeat (first | apply Kd.R_alloc | apply Kd.R_drewN | apply Kd.R_drew)); exact (Kd.R_mono (Kd.R_far (p := ⟨gb258, 4, none⟩) (Kd.R_types HO261.out BK258.out (by decide)) (fun _ hk => hk.2) (.slice Ao75 t259.length co75)) (fun _ h_ => h_.1))) hb); have n1_ := Aside0.mk (blk_below (g := gb255) (o := .cells #[.int .i64 a0_0, .int .i64 a0_1, .int .i64 a0_2, .int .i64 a0_3, .slice A0_4 l0_4.length c0_4] 24 (0, 0)) (by (with_reducible repeat (first | refine blk_drewN ?_ _ | refine blk_drew ?_ | refine blk_alloc ?_ _)); refine blk_far ?_ NB255_258.out _; (with_reducible repeat (first | refine blk_drewN ?_ _ | refine blk_drew ?_ | refine blk_alloc ?_ _)); exact BK255.out) hb); have n2_ := Aside0.mk (blk_below (g := gb256) (o := .cells #[.int .i64 0, .int .i64 0, .int .i64 0, .int .i64 0, .slice none 0 0] 24 (0, 0)) (by (with_reducible repeat (first | refine blk_drewN ?_ _ | refine blk_drew ?_ | refine blk_alloc ?_ _)); refine blk_far ?_ NB256_258.out _; (with_reducible repeat (first | refine blk_drewN ?_ _ | refine blk_drew ?_ | refine blk_alloc ?_ _)); exact BK256.out) hb); have n3_ := Aside0.mk (blk_below (g := gb258) (o := .cells #[.int .i64 a0_0, .int .i64 a0_1, .int .i64 a1, .int .i64 a0_3, .slice Ao75 t259.length co75] 24 (0, 0)) (by (with_reducible repeat (first | refine blk_drewN ?_ _ | refine blk_drew ?_ | refine blk_alloc ?_ _)); refine blk_put (cs := #[.int .i64 a0_0, .int .i64 a0_1, .int .i64 a1, .int .i64 a0_3, .slice A0_4 l0_4.length c0_4]) ?_ 4 _ rfl; (with_reducible repeat (first | refine blk_drewN ?_ _ | refine blk_drew ?_ | refine blk_alloc ?_ _)); exact BK258.out) hb); have n4_ := Aside0.mk (below_step (by repeat (first | (with_reducible first | exact HB.out | apply below_alloc | apply pw_below_drewN | apply below_drew1 | refine below_set ?_ GE255.out | refine below_set ?_ GE256.out | refine below_set ?_ GE258.out) | exact HB.out)) hb); clear HO261; clear BK255; clear BK256; clear BK258; clear HB; have HO261 := n0_; have BK255 := n1_; have BK256 := n2_; have BK258 := n3_; have HB := n4_; clear n0_ n1_ n2_ n3_ n4_; (try clear hb); (try clear hb2); (try clear hk); (try clear hi)))
                      have n0_ := Aside0.mk (Kd.R_drew HO261.out)
                      have n1_ := Aside0.mk (blk_drew BK255.out)
                      have n2_ := Aside0.mk (blk_drew BK256.out)
                      have n3_ := Aside0.mk (blk_drew BK258.out)
                      have n4_ := Aside0.mk (below_drew1 HB.out)
                      clear HO261
                      clear BK255
                      clear BK256
                      clear BK258
                      clear HB
                      have HO261 := n0_
                      have BK255 := n1_
                      have BK256 := n2_
                      have BK258 := n3_
                      have HB := n4_
                      clear n0_ n1_ n2_ n3_ n4_
                      refine start_ (n := 6) (S := fun w' => w'.cell? ⟨gb255, 0, none⟩ = some (.int .i64 a0_0) ∧ w'.cell? ⟨gb255, 1, none⟩ = some (.int .i64 a0_1) ∧ w'.cell? ⟨gb255, 2, none⟩ = some (.int .i64 a0_2) ∧ w'.cell? ⟨gb255, 3, none⟩ = some (.int .i64 a0_3) ∧ w'.cell? ⟨gb255, 4, none⟩ = some (.slice A0_4 l0_4.length c0_4)) (ds := []) #[false, false, false, false, false, false] (by kernel_rfl) rfl rfl ⟨(blk_cell BK255.out 0).trans rfl, (blk_cell BK255.out 1).trans rfl, (blk_cell BK255.out 2).trans rfl, (blk_cell BK255.out 3).trans rfl, (blk_cell BK255.out 4).trans rfl⟩ (fun hHeld => ?_)
                      generalize w78.drew = w79 at HO261 BK255 BK256 BK258 HB hHeld ⊢
                      refine pure_ (i := 2) (N := some 84) (v := ?_) (a' := ?_) #[false, false, true, false, false, false] rfl rfl (by kernel_rfl) (fun _ _ _ h => h) (Or.inl ⟨by rfl, ?_⟩) ?_ ?_
                      rotate_left
                      · intro w'
                        go_simp
                        with_reducible rfl
                      rotate_left
                      · simp only [Act.put, List.setIfInBounds_toArray, List.set_cons_zero, List.set_cons_succ, i64_w, i32_w]
                        rfl
                      refine take_ (i := 0) (N := some 82) (v := ?_) (a' := ?_) #[true, false, true, false, false, false] rfl rfl (by kernel_rfl) (fun _ _ _ h => h) (Or.inl ⟨by rfl, ?_⟩) hHeld ?_ ?_
                      rotate_left
                      · rintro w' ⟨s0, s1, s2, s3, s4⟩
                        go_simp
                        with_reducible rfl
                      rotate_left
                      · simp only [Act.put, List.setIfInBounds_toArray, List.set_cons_zero, List.set_cons_succ, i64_w, i32_w]
                        rfl
                      refine take_ (i := 3) (N := some 85) (v := ?_) (a' := ?_) #[true, false, true, true, false, false] rfl rfl (by kernel_rfl) (fun _ _ _ h => h) (Or.inl ⟨by rfl, ?_⟩) hHeld ?_ ?_
                      rotate_left
                      · rintro w' ⟨s0, s1, s2, s3, s4⟩
                        go_simp
                        with_reducible rfl
                      rotate_left
                      · simp only [Act.put, List.setIfInBounds_toArray, List.set_cons_zero, List.set_cons_succ, i64_w, i32_w]
                        rfl
                      refine one_ (i := 1) (N := some 83) #[true, true, true, true, false, false] rfl rfl (by kernel_rfl) (by decide) (fun K hK => ?_)
                      refine goes_ Try.func35 (by kernel_rfl) rfl #[.agg #[.int .i64 a0_0, .int .i64 a0_1, .int .i64 a0_2, .int .i64 a0_3, .slice A0_4 l0_4.length c0_4]] (by rfl) rfl rfl (by (try simp only [List.map_toArray, List.map_cons, List.map_nil]); first | done | rfl | (simp only [List.length_drop, List.length_take]; rfl)) ?_
                      with_reducible refine (standbyref33_Total.calls a0_0 a0_1 a0_2 a0_3 _ _ l0_4 t263 _ ?side1 ?side2 A65.out).mono ?_
                      (case side1 => repeat (first | exact (Kd.C_below HR0_4.out HB.out) | (with_reducible refine Kd.C_alloc ?_ _) | (with_reducible refine Kd.C_drewN ?_ _) | (with_reducible refine Kd.C_drew ?_)))
                      (case side2 => exact HC0_4.out)
                      rintro e w80 ⟨rfl, hb⟩
                      refine ⟨_, rfl, ?_⟩
                      have n0_ := Aside0.mk (Kd.R_below (by (with_reducible repeat (first | apply Kd.R_alloc | apply Kd.R_drewN | apply Kd.R_drew)); exact HO261.out) hb)
                      have n1_ := Aside0.mk (blk_below (g := gb255) (o := .cells #[.int .i64 a0_0, .int .i64 a0_1, .int .i64 a0_2, .int .i64 a0_3, .slice A0_4 l0_4.length c0_4] 24 (0, 0)) (by (with_reducible repeat (first | refine blk_drewN ?_ _ | refine blk_drew ?_ | refine blk_alloc ?_ _)); exact BK255.out) hb)
                      have n2_ := Aside0.mk (blk_below (g := gb256) (o := .cells #[.int .i64 0, .int .i64 0, .int .i64 0, .int .i64 0, .slice none 0 0] 24 (0, 0)) (by (with_reducible repeat (first | refine blk_drewN ?_ _ | refine blk_drew ?_ | refine blk_alloc ?_ _)); exact BK256.out) hb)
                      have n3_ := Aside0.mk (blk_below (g := gb258) (o := .cells #[.int .i64 a0_0, .int .i64 a0_1, .int .i64 a1, .int .i64 a0_3, .slice Ao75 t259.length co75] 24 (0, 0)) (by (with_reducible repeat (first | refine blk_drewN ?_ _ | refine blk_drew ?_ | refine blk_alloc ?_ _)); exact BK258.out) hb)
                      have n4_ := Aside0.mk (below_step (by repeat (first | (with_reducible first | exact HB.out | apply below_alloc | apply pw_below_drewN | apply below_drew1 | refine below_set ?_ GE255.out | refine below_set ?_ GE256.out | refine below_set ?_ GE258.out) | exact HB.out)) hb)
                      clear HO261
                      clear BK255
                      clear BK256
                      clear BK258
                      clear HB
                      have HO261 := n0_
                      have BK255 := n1_
                      have BK256 := n2_
                      have BK258 := n3_
                      have HB := n4_
                      clear n0_ n1_ n2_ n3_ n4_
                      (try clear hb)
                      (try clear hb2)
                      (try clear hk)
                      (try clear hi)
                      refine hK.out _ _ ⟨(blk_cell BK255.out 0).trans rfl, (blk_cell BK255.out 1).trans rfl, (blk_cell BK255.out 2).trans rfl, (blk_cell BK255.out 3).trans rfl, (blk_cell BK255.out 4).trans rfl⟩ (fun hHeld => ?_)
                      clear hK K
                      refine norm_ (a' := ?_) ?_ ?_
                      rotate_left
                      · show Act.put _ (some 83) _ = _
                        simp only [Act.put, List.setIfInBounds_toArray, List.set_cons_zero, List.set_cons_succ, i64_w, i32_w]
                        rfl
                      refine pure_ (i := 4) (N := some 86) (v := ?_) (a' := ?_) #[true, true, true, true, true, false] rfl rfl (by kernel_rfl) (fun _ _ _ h => h) (Or.inl ⟨by rfl, ?_⟩) ?_ ?_
                      rotate_left
                      · intro w'
                        go_simp
                        with_reducible rfl
                      rotate_left
                      · simp only [Act.put, List.setIfInBounds_toArray, List.set_cons_zero, List.set_cons_succ, i64_w, i32_w]
                        rfl
                      refine pure_ (i := 5) (N := some 13) (v := ?_) (a' := ?_) #[true, true, true, true, true, true] rfl rfl (by kernel_rfl) (fun _ _ _ h => h) (Or.inl ⟨by rfl, ?_⟩) ?_ ?_
                      rotate_left
                      · intro w'
                        go_simp
                        with_reducible rfl
                      rotate_left
                      · simp only [Act.put, List.setIfInBounds_toArray, List.set_cons_zero, List.set_cons_succ, i64_w, i32_w]
                        rfl
                      refine done_ (by kernel_rfl) ?_
                      have hcz81_0 : w80.cell? ⟨gb258, 0, none⟩ = some (.int .i64 a0_0) := (blk_cell BK258.out 0).trans rfl
                      have hcz81_1 : w80.cell? ⟨gb258, 1, none⟩ = some (.int .i64 a0_1) := (blk_cell BK258.out 1).trans rfl
                      have hcz81_2 : w80.cell? ⟨gb258, 2, none⟩ = some (.int .i64 a1) := (blk_cell BK258.out 2).trans rfl
                      have hcz81_3 : w80.cell? ⟨gb258, 3, none⟩ = some (.int .i64 a0_3) := (blk_cell BK258.out 3).trans rfl
                      have hcz81_4 : w80.cell? ⟨gb258, 4, none⟩ = some (.slice Ao75 t259.length co75) := (blk_cell BK258.out 4).trans rfl
                      have hfz81_0 := blk_frozen BK258.out 0
                      have hfz81_1 := blk_frozen BK258.out 1
                      have hfz81_2 := blk_frozen BK258.out 2
                      have hfz81_3 := blk_frozen BK258.out 3
                      have hfz81_4 := blk_frozen BK258.out 4
                      go_upto_region 21 with (fail)
                      go_cut [102] (fun v102 wc => ∃ (kq : Nat) (x102_65 : Bool), v102 = .bool x102_65 ∧ Aside0 (standbyref33_Write.j2 kq a1 a2 (wrap64 (t262 + a2)) (wrap64 (t263 - a0_3)) (t259.length : Int) x102_65 a0_0 a0_1 a0_2 a0_3 l0_4 a0_0 a0_1 a1 a0_3 t259 = some (r1, r2, r3, r4, r5, r6, r7)) ∧ Aside0 (kq ≤ kj19) ∧ Aside0 (Kd.R k71 71 wc w.heap.size (fun _ => True) (.slice Ao75 t259.length co75) t259) ∧ Aside0 (wc.heap[gb255]? = some (.cells #[.int .i64 a0_0, .int .i64 a0_1, .int .i64 a0_2, .int .i64 a0_3, (.slice A0_4 l0_4.length c0_4)] 24 (0, 0))) ∧ Aside0 (wc.heap[gb256]? = some (.cells #[.int .i64 0, .int .i64 0, .int .i64 0, .int .i64 0, (.slice none 0 0)] 24 (0, 0))) ∧ Aside0 (wc.heap[gb258]? = some (.cells #[.int .i64 a0_0, .int .i64 a0_1, .int .i64 a1, .int .i64 a0_3, (.slice Ao75 t259.length co75)] 24 (0, 0))) ∧ Aside0 (Below w.heap.size w wc))
                      case first =>
                        have H := HC66.out
                        clear HC66
                        by_cases c82 : (t259.length : Int) > 0
                        · rw [if_pos c82] at H
                          have c82b0 : decide (0 < (t259.length : Int)) = true := decide_eq_true c82
                          have c82b1 : decide (0 < t259.length) = true := decide_eq_true (by omega)
                          clear c82
                          (first | rw [c82b0] | (simp only [i64_w, i32_w]; rw [c82b0]) | skip)
                          obtain ⟨ji83, hji83⟩ : ∃ j_ : Int, (wrap64 ((t259.length : Int) - 1)) = j_ := ⟨_, rfl⟩
                          replace H : (if 0 ≤ (ji83) then (if (ji83) < (t259.length : Int) then (standbyref33_Write.j2 kj19 a1 a2 (wrap64 (t262 + a2)) (wrap64 (t263 - a0_3)) (t259.length : Int) (((rd_T71 t259 (ji83)).f0) == a1) a0_0 a0_1 a0_2 a0_3 l0_4 a0_0 a0_1 a1 a0_3 t259) else (none)) else (none)) = some (r1, r2, r3, r4, r5, r6, r7) := by first | (rw [hji83] at H; exact H) | (simp only [hji83] at H ⊢; exact H)
                          have hji83w : (IntKind.i64.wrap ((t259.length : Int) - 1)) = ji83 := (i64_w _).trans hji83
                          by_cases c84 : 0 ≤ (ji83)
                          · rw [if_pos c84] at H
                            have c84b0 : decide (0 ≤ (ji83)) = true := decide_eq_true c84
                            clear c84
                            by_cases c85 : (ji83) < (t259.length : Int)
                            · rw [if_pos c85] at H
                              have c85b0 : decide ((ji83) < (t259.length : Int)) = true := decide_eq_true c85
                              clear c85
                              have H' := Aside0.mk H
                              clear H
                              have hnb86 := NB258_255.out
                              have hnc86 := NB255_258.out
                              have hnb87 := NB258_256.out
                              have hnc87 := NB256_258.out
                              have hcz88_0 : w80.cell? ⟨gb258, 0, none⟩ = some (.int .i64 a0_0) := (blk_cell BK258.out 0).trans rfl
                              have hcz88_1 : w80.cell? ⟨gb258, 1, none⟩ = some (.int .i64 a0_1) := (blk_cell BK258.out 1).trans rfl
                              have hcz88_2 : w80.cell? ⟨gb258, 2, none⟩ = some (.int .i64 a1) := (blk_cell BK258.out 2).trans rfl
                              have hcz88_3 : w80.cell? ⟨gb258, 3, none⟩ = some (.int .i64 a0_3) := (blk_cell BK258.out 3).trans rfl
                              have hcz88_4 : w80.cell? ⟨gb258, 4, none⟩ = some (.slice Ao75 t259.length co75) := (blk_cell BK258.out 4).trans rfl
                              have hfz88_0 := blk_frozen BK258.out 0
                              have hfz88_1 := blk_frozen BK258.out 1
                              have hfz88_2 := blk_frozen BK258.out 2
                              have hfz88_3 := blk_frozen BK258.out 3
                              have hfz88_4 := blk_frozen BK258.out 4
                              have p264 : 0 ≤ ((ji83) : Int) := of_decide_eq_true (by first | (with_reducible assumption) | assumption)
                              have q264 : (ji83) < (t259.length : Int) := of_decide_eq_true (by first | (with_reducible assumption) | assumption)
                              obtain ⟨ad264, e264, hx264_0, hx264_1⟩ := at_T71 (Kd.R_reads' HO261.out).2.2 (ji83) p264 q264
                              cases e264
                              replace p264 := eq_true p264
                              replace q264 := eq_true q264
                              go_wp2
                              go_meet
                              case rel => exact ⟨_, ((((rd_T71 t259 (ji83)).f0) == a1)), (by first | rfl | (simp; done) | (simp only [← hji83] <;> (first | rfl | simp)) | (simp [*]; done)), H', ⟨by have := HJ5.out; have := HJ19.out; first | omega | exact Nat.le_refl _⟩, ⟨by (with_reducible repeat (first | apply Kd.R_alloc | apply Kd.R_drewN | apply Kd.R_drew)); exact HO261.out⟩, ⟨by (with_reducible repeat (first | refine blk_drewN ?_ _ | refine blk_drew ?_ | refine blk_alloc ?_ _)); exact BK255.out⟩, ⟨by (with_reducible repeat (first | refine blk_drewN ?_ _ | refine blk_drew ?_ | refine blk_alloc ?_ _)); exact BK256.out⟩, ⟨by (with_reducible repeat (first | refine blk_drewN ?_ _ | refine blk_drew ?_ | refine blk_alloc ?_ _)); exact BK258.out⟩, ⟨by repeat (first | (with_reducible first | exact HB.out | apply below_alloc | apply pw_below_drewN | apply below_drew1 | refine below_set ?_ GE255.out | refine below_set ?_ GE256.out | refine below_set ?_ GE258.out) | exact HB.out)⟩⟩
                            · rw [if_neg c85] at H
                              exact absurd H (by simp)
                          · rw [if_neg c84] at H
                            exact absurd H (by simp)
                        · rw [if_neg c82] at H
                          have c82b0 : decide (0 < (t259.length : Int)) = false := decide_eq_false c82
                          have c82b1 : decide (0 < t259.length) = false := decide_eq_false (by omega)
                          clear c82
                          (first | rw [c82b0] | (simp only [i64_w, i32_w]; rw [c82b0]) | skip)
                          have H' := Aside0.mk H
                          clear H
                          go_wp2
                          go_meet
                          case rel => exact ⟨_, (false), (by first | rfl | (simp; done) | (simp [*]; done)), H', ⟨by have := HJ5.out; have := HJ19.out; first | omega | exact Nat.le_refl _⟩, ⟨by (with_reducible repeat (first | apply Kd.R_alloc | apply Kd.R_drewN | apply Kd.R_drew)); exact HO261.out⟩, ⟨by (with_reducible repeat (first | refine blk_drewN ?_ _ | refine blk_drew ?_ | refine blk_alloc ?_ _)); exact BK255.out⟩, ⟨by (with_reducible repeat (first | refine blk_drewN ?_ _ | refine blk_drew ?_ | refine blk_alloc ?_ _)); exact BK256.out⟩, ⟨by (with_reducible repeat (first | refine blk_drewN ?_ _ | refine blk_drew ?_ | refine blk_alloc ?_ _)); exact BK258.out⟩, ⟨by repeat (first | (with_reducible first | exact HB.out | apply below_alloc | apply pw_below_drewN | apply below_drew1 | refine below_set ?_ GE255.out | refine below_set ?_ GE256.out | refine below_set ?_ GE258.out) | exact HB.out)⟩⟩
                      case rest =>
                        clear HC66
                        try clear c1
                        try clear c2
                        try clear p2
                        try clear q2
                        try clear hx2
                        try clear c3
                        try clear c5
                        try clear c5b0
                        try clear c5b1
                        try clear c6
                        try clear p6
                        try clear c7
                        try clear c8
                        try clear c9
                        try clear c12
                        try clear c12b0
                        try clear c13
                        try clear c15
                        try clear c17
                        try clear c18
                        try clear c21
                        try clear c21b0
                        try clear c22
                        try clear c23
                        try clear c25
                        try clear c25b0
                        try clear c26
                        try clear p26
                        try clear q26
                        try clear hx26
                        try clear c30
                        try clear c30b0
                        try clear c31
                        try clear c31b0
                        try clear c31b1
                        try clear c32
                        try clear c34
                        try clear c35
                        try clear c36
                        try clear c51
                        try clear c51b0
                        try clear c52
                        try clear c55
                        try clear c56
                        try clear p64
                        try clear c67
                        try clear c70
                        try clear c71
                        try clear c82
                        try clear c82b0
                        try clear c82b1
                        try clear c84
                        try clear c84b0
                        try clear c85
                        try clear c85b0
                        try clear c86
                        try clear c87
                        try clear hcz10_0
                        try clear hcz10_1
                        try clear hcz10_2
                        try clear hcz10_3
                        try clear hcz10_4
                        try clear hcz14_0
                        try clear hcz14_1
                        try clear hcz14_2
                        try clear hcz14_3
                        try clear hcz14_4
                        try clear hcz16_0
                        try clear hcz16_1
                        try clear hcz16_2
                        try clear hcz16_3
                        try clear hcz16_4
                        try clear hcz19_0
                        try clear hcz19_1
                        try clear hcz19_2
                        try clear hcz19_3
                        try clear hcz19_4
                        try clear hcz24_0
                        try clear hcz24_1
                        try clear hcz24_2
                        try clear hcz24_3
                        try clear hcz24_4
                        try clear hcz27_0
                        try clear hcz27_1
                        try clear hcz27_2
                        try clear hcz27_3
                        try clear hcz27_4
                        try clear hcz28_0
                        try clear hcz28_1
                        try clear hcz28_2
                        try clear hcz28_3
                        try clear hcz28_4
                        try clear hcz33_0
                        try clear hcz33_1
                        try clear hcz33_2
                        try clear hcz33_3
                        try clear hcz33_4
                        try clear hcz37_0
                        try clear hcz37_1
                        try clear hcz37_2
                        try clear hcz37_3
                        try clear hcz37_4
                        try clear hcz38_0
                        try clear hcz38_1
                        try clear hcz38_2
                        try clear hcz38_3
                        try clear hcz38_4
                        try clear hcz41_0
                        try clear hcz41_1
                        try clear hcz41_2
                        try clear hcz41_3
                        try clear hcz41_4
                        try clear hcz42_0
                        try clear hcz42_1
                        try clear hcz42_2
                        try clear hcz42_3
                        try clear hcz42_4
                        try clear hcz53_0
                        try clear hcz53_1
                        try clear hcz53_2
                        try clear hcz53_3
                        try clear hcz53_4
                        try clear hcz57_0
                        try clear hcz57_1
                        try clear hcz57_2
                        try clear hcz57_3
                        try clear hcz57_4
                        try clear hcz58_0
                        try clear hcz58_1
                        try clear hcz58_2
                        try clear hcz58_3
                        try clear hcz58_4
                        try clear hcz61_0
                        try clear hcz61_1
                        try clear hcz61_2
                        try clear hcz61_3
                        try clear hcz61_4
                        try clear hcz62_0
                        try clear hcz62_1
                        try clear hcz62_2
                        try clear hcz62_3
                        try clear hcz62_4
                        try clear hcz64_0
                        try clear hcz64_1
                        try clear hcz64_2
                        try clear hcz64_3
                        try clear hcz64_4
                        try clear hcz68_0
                        try clear hcz68_1
                        try clear hcz68_2
                        try clear hcz68_3
                        try clear hcz68_4
                        try clear hcz72_0
                        try clear hcz72_1
                        try clear hcz72_2
                        try clear hcz72_3
                        try clear hcz72_4
                        try clear hcz73_0
                        try clear hcz73_1
                        try clear hcz73_2
                        try clear hcz73_3
                        try clear hcz73_4
                        try clear hcz76_0
                        try clear hcz76_1
                        try clear hcz76_2
                        try clear hcz76_3
                        try clear hcz76_4
                        try clear hcz77_0
                        try clear hcz77_1
                        try clear hcz77_2
                        try clear hcz77_3
                        try clear hcz77_4
                        try clear hcz81_0
                        try clear hcz81_1
                        try clear hcz81_2
                        try clear hcz81_3
                        try clear hcz81_4
                        try clear hcz88_0
                        try clear hcz88_1
                        try clear hcz88_2
                        try clear hcz88_3
                        try clear hcz88_4
                        try clear hfz10_0
                        try clear hfz10_1
                        try clear hfz10_2
                        try clear hfz10_3
                        try clear hfz10_4
                        try clear hfz14_0
                        try clear hfz14_1
                        try clear hfz14_2
                        try clear hfz14_3
                        try clear hfz14_4
                        try clear hfz16_0
                        try clear hfz16_1
                        try clear hfz16_2
                        try clear hfz16_3
                        try clear hfz16_4
                        try clear hfz19_0
                        try clear hfz19_1
                        try clear hfz19_2
                        try clear hfz19_3
                        try clear hfz19_4
                        try clear hfz24_0
                        try clear hfz24_1
                        try clear hfz24_2
                        try clear hfz24_3
                        try clear hfz24_4
                        try clear hfz27_0
                        try clear hfz27_1
                        try clear hfz27_2
                        try clear hfz27_3
                        try clear hfz27_4
                        try clear hfz28_0
                        try clear hfz28_1
                        try clear hfz28_2
                        try clear hfz28_3
                        try clear hfz28_4
                        try clear hfz33_0
                        try clear hfz33_1
                        try clear hfz33_2
                        try clear hfz33_3
                        try clear hfz33_4
                        try clear hfz37_0
                        try clear hfz37_1
                        try clear hfz37_2
                        try clear hfz37_3
                        try clear hfz37_4
                        try clear hfz38_0
                        try clear hfz38_1
                        try clear hfz38_2
                        try clear hfz38_3
                        try clear hfz38_4
                        try clear hfz41_0
                        try clear hfz41_1
                        try clear hfz41_2
                        try clear hfz41_3
                        try clear hfz41_4
                        try clear hfz42_0
                        try clear hfz42_1
                        try clear hfz42_2
                        try clear hfz42_3
                        try clear hfz42_4
                        try clear hfz53_0
                        try clear hfz53_1
                        try clear hfz53_2
                        try clear hfz53_3
                        try clear hfz53_4
                        try clear hfz57_0
                        try clear hfz57_1
                        try clear hfz57_2
                        try clear hfz57_3
                        try clear hfz57_4
                        try clear hfz58_0
                        try clear hfz58_1
                        try clear hfz58_2
                        try clear hfz58_3
                        try clear hfz58_4
                        try clear hfz61_0
                        try clear hfz61_1
                        try clear hfz61_2
                        try clear hfz61_3
                        try clear hfz61_4
                        try clear hfz62_0
                        try clear hfz62_1
                        try clear hfz62_2
                        try clear hfz62_3
                        try clear hfz62_4
                        try clear hfz64_0
                        try clear hfz64_1
                        try clear hfz64_2
                        try clear hfz64_3
                        try clear hfz64_4
                        try clear hfz68_0
                        try clear hfz68_1
                        try clear hfz68_2
                        try clear hfz68_3
                        try clear hfz68_4
                        try clear hfz72_0
                        try clear hfz72_1
                        try clear hfz72_2
                        try clear hfz72_3
                        try clear hfz72_4
                        try clear hfz73_0
                        try clear hfz73_1
                        try clear hfz73_2
                        try clear hfz73_3
                        try clear hfz73_4
                        try clear hfz76_0
                        try clear hfz76_1
                        try clear hfz76_2
                        try clear hfz76_3
                        try clear hfz76_4
                        try clear hfz77_0
                        try clear hfz77_1
                        try clear hfz77_2
                        try clear hfz77_3
                        try clear hfz77_4
                        try clear hfz81_0
                        try clear hfz81_1
                        try clear hfz81_2
                        try clear hfz81_3
                        try clear hfz81_4
                        try clear hfz88_0
                        try clear hfz88_1
                        try clear hfz88_2
                        try clear hfz88_3
                        try clear hfz88_4
                        try clear hx264_0
                        try clear hx264_1
                        try clear p2
                        try clear p264
                        try clear q264
                        obtain ⟨kq, x102_65, rfl, HA, HJ65, HO_259004, BK255, BK256, BK258, HB⟩ := hcut
                        cases kq with
                        | zero => exact absurd HA.out (by simp [standbyref33_Write.j2])
                        | succ kj65 =>
                          have H := HA.out
                          clear HA
                          simp only [standbyref33_Write.j2] at H
                          by_cases c89 : x102_65 = true
                          · subst c89
                            have H1 : (if 0 ≤ (wrap64 ((t259.length : Int) - 1)) then (if (wrap64 ((t259.length : Int) - 1)) < (t259.length : Int) then (if (t259.length : Int) > 4096 then (some (0, 0, 0, 0, ([] : List (S71)), 0, 11)) else (some (a0_0, a0_1, a1, wrap64 (a0_3 + a2), (t259.set ((wrap64 ((t259.length : Int) - 1)) : Int).toNat (⟨(rd_T71 t259 (wrap64 ((t259.length : Int) - 1))).f0, (wrap64 (t262 + a2))⟩ : S71)), 0, 0))) else (none)) else (none)) = some (r1, r2, r3, r4, r5, r6, r7) := by rw [if_pos rfl] at H; exact H
                            clear H
                            have H := H1
                            clear H1
                            obtain ⟨ji90, hji90⟩ : ∃ j_ : Int, (wrap64 ((t259.length : Int) - 1)) = j_ := ⟨_, rfl⟩
                            replace H : (if 0 ≤ (ji90) then (if (ji90) < (t259.length : Int) then (if (t259.length : Int) > 4096 then (some (0, 0, 0, 0, ([] : List (S71)), 0, 11)) else (some (a0_0, a0_1, a1, wrap64 (a0_3 + a2), (t259.set ((ji90) : Int).toNat (⟨(rd_T71 t259 (ji90)).f0, (wrap64 (t262 + a2))⟩ : S71)), 0, 0))) else (none)) else (none)) = some (r1, r2, r3, r4, r5, r6, r7) := by first | (rw [hji90] at H; exact H) | (simp only [hji90] at H ⊢; exact H)
                            have hji90w : (IntKind.i64.wrap ((t259.length : Int) - 1)) = ji90 := (i64_w _).trans hji90
                            by_cases c91 : 0 ≤ (ji90)
                            · rw [if_pos c91] at H
                              have c91b0 : decide (0 ≤ (ji90)) = true := decide_eq_true c91
                              clear c91
                              by_cases c92 : (ji90) < (t259.length : Int)
                              · rw [if_pos c92] at H
                                have c92b0 : decide ((ji90) < (t259.length : Int)) = true := decide_eq_true c92
                                clear c92
                                obtain ⟨y265, hy265⟩ : ∃ y_ : List (S71), y_ = (t259.set ((ji90) : Int).toNat (⟨(rd_T71 t259 (ji90)).f0, (wrap64 (t262 + a2))⟩ : S71)) := ⟨_, rfl⟩
                                replace H : (if (t259.length : Int) > 4096 then (some (0, 0, 0, 0, ([] : List (S71)), 0, 11)) else (some (a0_0, a0_1, a1, wrap64 (a0_3 + a2), y265, 0, 0))) = some (r1, r2, r3, r4, r5, r6, r7) := by first | (rw [hy265]; with_reducible exact H) | (have H2_ := (Option.bind_some _ _).symm.trans H; rw [hy265]; with_reducible exact H2_) | (have H2_ := (Option.bind_some _ _).symm.trans H; with_reducible exact H2_) | with_reducible exact H | (rw [hy265]; exact H) | exact H
                                have Ny265 := Aside0.mk hy265
                                clear hy265
                                by_cases c94 : (t259.length : Int) > 4096
                                · rw [if_pos c94] at H
                                  have c94b0 : decide (4096 < (t259.length : Int)) = true := decide_eq_true c94
                                  have c94b1 : decide (4096 < t259.length) = true := decide_eq_true (by omega)
                                  clear c94
                                  simp only [Option.some.injEq, Prod.mk.injEq] at H
                                  obtain ⟨rfl, rfl, rfl, rfl, rfl, rfl, rfl⟩ := H
                                  have hnb95 := NB258_255.out
                                  have hnc95 := NB255_258.out
                                  have hnb96 := NB258_256.out
                                  have hnc96 := NB256_258.out
                                  have hcz97_0 : wc.cell? ⟨gb258, 0, none⟩ = some (.int .i64 a0_0) := (blk_cell BK258.out 0).trans rfl
                                  have hcz97_1 : wc.cell? ⟨gb258, 1, none⟩ = some (.int .i64 a0_1) := (blk_cell BK258.out 1).trans rfl
                                  have hcz97_2 : wc.cell? ⟨gb258, 2, none⟩ = some (.int .i64 a1) := (blk_cell BK258.out 2).trans rfl
                                  have hcz97_3 : wc.cell? ⟨gb258, 3, none⟩ = some (.int .i64 a0_3) := (blk_cell BK258.out 3).trans rfl
                                  have hcz97_4 : wc.cell? ⟨gb258, 4, none⟩ = some (.slice Ao75 t259.length co75) := (blk_cell BK258.out 4).trans rfl
                                  have hfz97_0 := blk_frozen BK258.out 0
                                  have hfz97_1 := blk_frozen BK258.out 1
                                  have hfz97_2 := blk_frozen BK258.out 2
                                  have hfz97_3 := blk_frozen BK258.out 3
                                  have hfz97_4 := blk_frozen BK258.out 4
                                  have p93 : 0 ≤ ((ji90) : Int) := of_decide_eq_true (by first | (with_reducible assumption) | assumption)
                                  have q93 : ((ji90) : Int) < ((t259.length : Int) : Int) := of_decide_eq_true (by first | (with_reducible assumption) | assumption)
                                  obtain ⟨go93, co93, eo93, gb93, gl93, cl93, HG93⟩ := Kd.R_form HO_259004.out (by omega)
                                  (first | cases eo93 | (injection eo93 with ea_ en_ ec_; (first | subst ea_ | (injection ea_ with ea_; subst ea_)); subst ec_; clear en_))
                                  have GB93 := Aside0.mk gb93
                                  have GG93 := Aside0.mk HG93
                                  clear gb93 gl93 HG93
                                  obtain ⟨ce93, hcl93, hM93, hcc93, hfr93⟩ := Kd.R_elem HO_259004.out z71 ((ji90) : Int) p93 q93
                                  obtain rfl := k71_openM hM93
                                  have hx93_0 : wc.cell? ⟨go93, ((ji90) : Int).toNat * 2, none⟩ = some (.int .i64 ((rd_T71 t259 (ji90)).f0)) := hcc93 0 _ rfl
                                  have hx93_1 : wc.cell? ⟨go93, ((ji90) : Int).toNat * 2 + 1, none⟩ = some (.int .i64 ((rd_T71 t259 (ji90)).f1)) := hcc93 1 _ rfl
                                  have hf93_0 : wc.frozen? ⟨go93, ((ji90) : Int).toNat * 2, none⟩ = false := hfr93 0
                                  have hf93_1 : wc.frozen? ⟨go93, ((ji90) : Int).toNat * 2 + 1, none⟩ = false := hfr93 1
                                  clear hcl93 hcc93 hfr93 hM93
                                  replace p93 := eq_true p93
                                  replace q93 := eq_true q93
                                  have HX98 := Aside0.mk (show Kd.R k71 71 wc w.heap.size (fun _ => True) (.slice (some ⟨go93, 0, none⟩) t259.length co75) t259 from (by (with_reducible repeat (first | apply Kd.R_alloc | apply Kd.R_drewN | apply Kd.R_drew)); exact HO_259004.out))
                                  obtain ⟨ce98, hcl98, hM98, hcc98, hfr98⟩ := Kd.R_elem HX98.out z71 ((ji90) : Int) (of_decide_eq_true (by first | (with_reducible assumption) | assumption)) (by have h_ : ((ji90) : Int) < ((t259.length : Int) : Int) := of_decide_eq_true (by first | (with_reducible assumption) | assumption); first | exact h_ | (have e_ := (Kd.R_reads' HO_259004.out).1; omega) | simpa using h_)
                                  obtain rfl := k71_openM hM98
                                  have HP98 := Kd.R_seg HX98.out ((ji90) : Int) (of_decide_eq_true (by first | (with_reducible assumption) | assumption)) (by have h_ : ((ji90) : Int) < ((t259.length : Int) : Int) := of_decide_eq_true (by first | (with_reducible assumption) | assumption); first | exact h_ | (have e_ := (Kd.R_reads' HO_259004.out).1; omega) | simpa using h_) (seg := [.int .i64 (wrap64 (t262 + a2))]) (j := 1) hcl98 hcc98 (show 2 ≤ 2 from by decide) (x' := (⟨(rd_T71 t259 (ji90)).f0, (wrap64 (t262 + a2))⟩ : S71)) (k71_mkM _ _ _ (⟨(rd_T71 t259 (ji90)).f0, (wrap64 (t262 + a2))⟩ : S71) ) (fun _ hk => hk)
                                  have hx98_1 := hcc98 1 _ rfl
                                  (try simp only [show (k71).sz = 2 from rfl, Nat.mul_one, Nat.add_zero] at hx98_1)
                                  have hf98_1 := hfr98 1
                                  (try simp only [show (k71).sz = 2 from rfl, Nat.mul_one, Nat.add_zero] at hf98_1)
                                  clear hcl98 hcc98 hfr98 hM98
                                  go_wp2_with (first | ((with_reducible refine gate_store (t := 3) (p := 109) rfl ?_); refine store_event (t := 3) (p := 109) (v := ?vo_w99) (w1 := (wc.setCell ⟨go93, ((ji90) : Int).toNat * 2 + 1, none⟩ (.int .i64 (wrap64 (t262 + a2))))) ?hg ?ho ?hn ?hr ?_; (case ho => rfl); (case hg => rfl); (case hn => rfl); (case hr => first | (go_simp; done) | (go_simp; rfl)); intro w99 hw; have hg : wc.grownBy w99 (some go93) := (by rw [hw]; exact HP98.2); have hp_ : Kd.R k71 71 w99 w.heap.size (fun _ => True) (.slice (some ⟨go93, 0, none⟩) t259.length co75) y265 := (by rw [hw, Ny265.out]; exact HP98.1); clear HP98; have n0_ := Aside0.mk (hp_); have n1_ := Aside0.mk (blk_grown (g := gb255) (o := .cells #[.int .i64 a0_0, .int .i64 a0_1, .int .i64 a0_2, .int .i64 a0_3, .slice A0_4 l0_4.length c0_4] 24 (0, 0)) (by (with_reducible repeat (first | refine blk_drewN ?_ _ | refine blk_drew ?_ | refine blk_alloc ?_ _)); exact BK255.out) hg (Kd.R_ne HO_259004.out BK255.out (by decide))); have n2_ := Aside0.mk (blk_grown (g := gb256) (o := .cells #[.int .i64 0, .int .i64 0, .int .i64 0, .int .i64 0, .slice none 0 0] 24 (0, 0)) (by (with_reducible repeat (first | refine blk_drewN ?_ _ | refine blk_drew ?_ | refine blk_alloc ?_ _)); exact BK256.out) hg (Kd.R_ne HO_259004.out BK256.out (by decide))); have n3_ := Aside0.mk (blk_grown (g := gb258) (o := .cells #[.int .i64 a0_0, .int .i64 a0_1, .int .i64 a1, .int .i64 a0_3, .slice (some ⟨go93, 0, none⟩) t259.length co75] 24 (0, 0)) (by (with_reducible repeat (first | refine blk_drewN ?_ _ | refine blk_drew ?_ | refine blk_alloc ?_ _)); exact BK258.out) hg (Kd.R_ne HO_259004.out BK258.out (by decide))); have n4_ := Aside0.mk ((by rw [hw]; exact below_set (HB.out) GB93.out : Below w.heap.size w w99)); clear HO_259004; clear BK255; clear BK256; clear BK258; clear HB; have HO_259004 := n0_; have BK255 := n1_; have BK256 := n2_; have BK258 := n3_; have HB := n4_; clear n0_ n1_ n2_ n3_ n4_; clear hg hw hp_; have hcz100_0 : w99.cell? ⟨gb258, 0, none⟩ = some (.int .i64 a0_0) := (blk_cell BK258.out 0).trans rfl; have hcz100_1 : w99.cell? ⟨gb258, 1, none⟩ = some (.int .i64 a0_1) := (blk_cell BK258.out 1).trans rfl; have hcz100_2 : w99.cell? ⟨gb258, 2, none⟩ = some (.int .i64 a1) := (blk_cell BK258.out 2).trans rfl; have hcz100_3 : w99.cell? ⟨gb258, 3, none⟩ = some (.int .i64 a0_3) := (blk_cell BK258.out 3).trans rfl; have hcz100_4 : w99.cell? ⟨gb258, 4, none⟩ = some (.slice (some ⟨go93, 0, none⟩) t259.length co75) := (blk_cell BK258.out 4).trans rfl; have hfz100_0 := blk_frozen BK258.out 0; have hfz100_1 := blk_frozen BK258.out 1; have hfz100_2 := blk_frozen BK258.out 2; have hfz100_3 := blk_frozen BK258.out 3; have hfz100_4 := blk_frozen BK258.out 4; have hnb101 := NB256_255.out; have hnc101 := NB255_256.out; have hcz102_0 : w99.cell? ⟨gb256, 0, none⟩ = some (.int .i64 0) := (blk_cell BK256.out 0).trans rfl; have hcz102_1 : w99.cell? ⟨gb256, 1, none⟩ = some (.int .i64 0) := (blk_cell BK256.out 1).trans rfl; have hcz102_2 : w99.cell? ⟨gb256, 2, none⟩ = some (.int .i64 0) := (blk_cell BK256.out 2).trans rfl; have hcz102_3 : w99.cell? ⟨gb256, 3, none⟩ = some (.int .i64 0) := (blk_cell BK256.out 3).trans rfl; have hcz102_4 : w99.cell? ⟨gb256, 4, none⟩ = some (.slice none 0 0) := (blk_cell BK256.out 4).trans rfl; have hfz102_0 := blk_frozen BK256.out 0; have hfz102_1 := blk_frozen BK256.out 1; have hfz102_2 := blk_frozen BK256.out 2; have hfz102_3 := blk_frozen BK256.out 3; have hfz102_4 := blk_frozen BK256.out 4))
                                  refine bodyPost_ret (results_ctt rfl _ _ gb256 24 #[.int .i64 0, .int .i64 0, .int .i64 0, .int .i64 0, .slice none 0 0] (0, 0) _ rfl (by (with_reducible repeat (first | refine blk_drewN ?_ _ | refine blk_drew ?_ | refine blk_alloc ?_ _)); refine blk_put (cs := #[.int .i64 0, .int .i64 0, .int .i64 0, .int .i64 0, .slice none 0 0]) ?_ 4 _ rfl; (with_reducible repeat (first | refine blk_drewN ?_ _ | refine blk_drew ?_ | refine blk_alloc ?_ _)); refine blk_put (cs := #[.int .i64 0, .int .i64 0, .int .i64 0, .int .i64 0, .slice none 0 0]) ?_ 3 _ rfl; (with_reducible repeat (first | refine blk_drewN ?_ _ | refine blk_drew ?_ | refine blk_alloc ?_ _)); refine blk_put (cs := #[.int .i64 0, .int .i64 0, .int .i64 0, .int .i64 0, .slice none 0 0]) ?_ 2 _ rfl; (with_reducible repeat (first | refine blk_drewN ?_ _ | refine blk_drew ?_ | refine blk_alloc ?_ _)); refine blk_put (cs := #[.int .i64 0, .int .i64 0, .int .i64 0, .int .i64 0, .slice none 0 0]) ?_ 1 _ rfl; (with_reducible repeat (first | refine blk_drewN ?_ _ | refine blk_drew ?_ | refine blk_alloc ?_ _)); refine blk_put (cs := #[.int .i64 0, .int .i64 0, .int .i64 0, .int .i64 0, .slice none 0 0]) ?_ 0 _ rfl; (with_reducible repeat (first | refine blk_drewN ?_ _ | refine blk_drew ?_ | refine blk_alloc ?_ _)); exact BK256.out) Try.underlying24 rfl (by kernel_rfl)) rfl ?_
                                  exact ⟨_, by first | rfl | (simp [errW_none, errW_some] <;> rfl) | (simp only [← hji90]; first | rfl | (simp [errW_none, errW_some] <;> rfl)) | (simp [*, errW_none, errW_some] <;> rfl), by first | exact Kd.R_nil _ _ _ _ _ | exact Kd.N_nil _ _ _ _ _ | exact Kd.V_nil _ _ _ _ _ | exact Kd.Q_nil _ _ _ _ _ | exact Kd.S_nil _ _ _ _ _, by repeat (first | (with_reducible first | exact HB.out | apply below_alloc | apply pw_below_drewN | apply below_drew1 | refine below_set ?_ GE255.out | refine below_set ?_ GE256.out | refine below_set ?_ GE258.out) | exact HB.out)⟩
                                · rw [if_neg c94] at H
                                  have c94b0 : decide (4096 < (t259.length : Int)) = false := decide_eq_false c94
                                  have c94b1 : decide (4096 < t259.length) = false := decide_eq_false (by omega)
                                  clear c94
                                  simp only [Option.some.injEq, Prod.mk.injEq] at H
                                  obtain ⟨rfl, rfl, rfl, rfl, rfl, rfl, rfl⟩ := H
                                  have hnb103 := NB258_255.out
                                  have hnc103 := NB255_258.out
                                  have hnb104 := NB258_256.out
                                  have hnc104 := NB256_258.out
                                  have hcz105_0 : wc.cell? ⟨gb258, 0, none⟩ = some (.int .i64 a0_0) := (blk_cell BK258.out 0).trans rfl
                                  have hcz105_1 : wc.cell? ⟨gb258, 1, none⟩ = some (.int .i64 a0_1) := (blk_cell BK258.out 1).trans rfl
                                  have hcz105_2 : wc.cell? ⟨gb258, 2, none⟩ = some (.int .i64 a1) := (blk_cell BK258.out 2).trans rfl
                                  have hcz105_3 : wc.cell? ⟨gb258, 3, none⟩ = some (.int .i64 a0_3) := (blk_cell BK258.out 3).trans rfl
                                  have hcz105_4 : wc.cell? ⟨gb258, 4, none⟩ = some (.slice Ao75 t259.length co75) := (blk_cell BK258.out 4).trans rfl
                                  have hfz105_0 := blk_frozen BK258.out 0
                                  have hfz105_1 := blk_frozen BK258.out 1
                                  have hfz105_2 := blk_frozen BK258.out 2
                                  have hfz105_3 := blk_frozen BK258.out 3
                                  have hfz105_4 := blk_frozen BK258.out 4
                                  have p93 : 0 ≤ ((ji90) : Int) := of_decide_eq_true (by first | (with_reducible assumption) | assumption)
                                  have q93 : ((ji90) : Int) < ((t259.length : Int) : Int) := of_decide_eq_true (by first | (with_reducible assumption) | assumption)
                                  obtain ⟨go93, co93, eo93, gb93, gl93, cl93, HG93⟩ := Kd.R_form HO_259004.out (by omega)
                                  (first | cases eo93 | (injection eo93 with ea_ en_ ec_; (first | subst ea_ | (injection ea_ with ea_; subst ea_)); subst ec_; clear en_))
                                  have GB93 := Aside0.mk gb93
                                  have GG93 := Aside0.mk HG93
                                  clear gb93 gl93 HG93
                                  obtain ⟨ce93, hcl93, hM93, hcc93, hfr93⟩ := Kd.R_elem HO_259004.out z71 ((ji90) : Int) p93 q93
                                  obtain rfl := k71_openM hM93
                                  have hx93_0 : wc.cell? ⟨go93, ((ji90) : Int).toNat * 2, none⟩ = some (.int .i64 ((rd_T71 t259 (ji90)).f0)) := hcc93 0 _ rfl
                                  have hx93_1 : wc.cell? ⟨go93, ((ji90) : Int).toNat * 2 + 1, none⟩ = some (.int .i64 ((rd_T71 t259 (ji90)).f1)) := hcc93 1 _ rfl
                                  have hf93_0 : wc.frozen? ⟨go93, ((ji90) : Int).toNat * 2, none⟩ = false := hfr93 0
                                  have hf93_1 : wc.frozen? ⟨go93, ((ji90) : Int).toNat * 2 + 1, none⟩ = false := hfr93 1
                                  clear hcl93 hcc93 hfr93 hM93
                                  replace p93 := eq_true p93
                                  replace q93 := eq_true q93
                                  have HX106 := Aside0.mk (show Kd.R k71 71 wc w.heap.size (fun _ => True) (.slice (some ⟨go93, 0, none⟩) t259.length co75) t259 from (by (with_reducible repeat (first | apply Kd.R_alloc | apply Kd.R_drewN | apply Kd.R_drew)); exact HO_259004.out))
                                  obtain ⟨ce106, hcl106, hM106, hcc106, hfr106⟩ := Kd.R_elem HX106.out z71 ((ji90) : Int) (of_decide_eq_true (by first | (with_reducible assumption) | assumption)) (by have h_ : ((ji90) : Int) < ((t259.length : Int) : Int) := of_decide_eq_true (by first | (with_reducible assumption) | assumption); first | exact h_ | (have e_ := (Kd.R_reads' HO_259004.out).1; omega) | simpa using h_)
                                  obtain rfl := k71_openM hM106
                                  have HP106 := Kd.R_seg HX106.out ((ji90) : Int) (of_decide_eq_true (by first | (with_reducible assumption) | assumption)) (by have h_ : ((ji90) : Int) < ((t259.length : Int) : Int) := of_decide_eq_true (by first | (with_reducible assumption) | assumption); first | exact h_ | (have e_ := (Kd.R_reads' HO_259004.out).1; omega) | simpa using h_) (seg := [.int .i64 (wrap64 (t262 + a2))]) (j := 1) hcl106 hcc106 (show 2 ≤ 2 from by decide) (x' := (⟨(rd_T71 t259 (ji90)).f0, (wrap64 (t262 + a2))⟩ : S71)) (k71_mkM _ _ _ (⟨(rd_T71 t259 (ji90)).f0, (wrap64 (t262 + a2))⟩ : S71) ) (fun _ hk => hk)
                                  have hx106_1 := hcc106 1 _ rfl
                                  (try simp only [show (k71).sz = 2 from rfl, Nat.mul_one, Nat.add_zero] at hx106_1)
                                  have hf106_1 := hfr106 1
                                  (try simp only [show (k71).sz = 2 from rfl, Nat.mul_one, Nat.add_zero] at hf106_1)
                                  clear hcl106 hcc106 hfr106 hM106
                                  go_wp2_with (first | ((with_reducible refine gate_store (t := 3) (p := 109) rfl ?_); refine store_event (t := 3) (p := 109) (v := ?vo_w107) (w1 := (wc.setCell ⟨go93, ((ji90) : Int).toNat * 2 + 1, none⟩ (.int .i64 (wrap64 (t262 + a2))))) ?hg ?ho ?hn ?hr ?_; (case ho => rfl); (case hg => rfl); (case hn => rfl); (case hr => first | (go_simp; done) | (go_simp; rfl)); intro w107 hw; have hg : wc.grownBy w107 (some go93) := (by rw [hw]; exact HP106.2); have hp_ : Kd.R k71 71 w107 w.heap.size (fun _ => True) (.slice (some ⟨go93, 0, none⟩) t259.length co75) y265 := (by rw [hw, Ny265.out]; exact HP106.1); clear HP106; have n0_ := Aside0.mk (hp_); have n1_ := Aside0.mk (blk_grown (g := gb255) (o := .cells #[.int .i64 a0_0, .int .i64 a0_1, .int .i64 a0_2, .int .i64 a0_3, .slice A0_4 l0_4.length c0_4] 24 (0, 0)) (by (with_reducible repeat (first | refine blk_drewN ?_ _ | refine blk_drew ?_ | refine blk_alloc ?_ _)); exact BK255.out) hg (Kd.R_ne HO_259004.out BK255.out (by decide))); have n2_ := Aside0.mk (blk_grown (g := gb256) (o := .cells #[.int .i64 0, .int .i64 0, .int .i64 0, .int .i64 0, .slice none 0 0] 24 (0, 0)) (by (with_reducible repeat (first | refine blk_drewN ?_ _ | refine blk_drew ?_ | refine blk_alloc ?_ _)); exact BK256.out) hg (Kd.R_ne HO_259004.out BK256.out (by decide))); have n3_ := Aside0.mk (blk_grown (g := gb258) (o := .cells #[.int .i64 a0_0, .int .i64 a0_1, .int .i64 a1, .int .i64 a0_3, .slice (some ⟨go93, 0, none⟩) t259.length co75] 24 (0, 0)) (by (with_reducible repeat (first | refine blk_drewN ?_ _ | refine blk_drew ?_ | refine blk_alloc ?_ _)); exact BK258.out) hg (Kd.R_ne HO_259004.out BK258.out (by decide))); have n4_ := Aside0.mk ((by rw [hw]; exact below_set (HB.out) GB93.out : Below w.heap.size w w107)); clear HO_259004; clear BK255; clear BK256; clear BK258; clear HB; have HO_259004 := n0_; have BK255 := n1_; have BK256 := n2_; have BK258 := n3_; have HB := n4_; clear n0_ n1_ n2_ n3_ n4_; clear hg hw hp_; have hcz108_0 : w107.cell? ⟨gb258, 0, none⟩ = some (.int .i64 a0_0) := (blk_cell BK258.out 0).trans rfl; have hcz108_1 : w107.cell? ⟨gb258, 1, none⟩ = some (.int .i64 a0_1) := (blk_cell BK258.out 1).trans rfl; have hcz108_2 : w107.cell? ⟨gb258, 2, none⟩ = some (.int .i64 a1) := (blk_cell BK258.out 2).trans rfl; have hcz108_3 : w107.cell? ⟨gb258, 3, none⟩ = some (.int .i64 a0_3) := (blk_cell BK258.out 3).trans rfl; have hcz108_4 : w107.cell? ⟨gb258, 4, none⟩ = some (.slice (some ⟨go93, 0, none⟩) t259.length co75) := (blk_cell BK258.out 4).trans rfl; have hfz108_0 := blk_frozen BK258.out 0; have hfz108_1 := blk_frozen BK258.out 1; have hfz108_2 := blk_frozen BK258.out 2; have hfz108_3 := blk_frozen BK258.out 3; have hfz108_4 := blk_frozen BK258.out 4; have hnb109 := NB255_256.out; have hnc109 := NB256_255.out; have hcz110_0 : w107.cell? ⟨gb255, 0, none⟩ = some (.int .i64 a0_0) := (blk_cell BK255.out 0).trans rfl; have hcz110_1 : w107.cell? ⟨gb255, 1, none⟩ = some (.int .i64 a0_1) := (blk_cell BK255.out 1).trans rfl; have hcz110_2 : w107.cell? ⟨gb255, 2, none⟩ = some (.int .i64 a0_2) := (blk_cell BK255.out 2).trans rfl; have hcz110_3 : w107.cell? ⟨gb255, 3, none⟩ = some (.int .i64 a0_3) := (blk_cell BK255.out 3).trans rfl; have hcz110_4 : w107.cell? ⟨gb255, 4, none⟩ = some (.slice A0_4 l0_4.length c0_4) := (blk_cell BK255.out 4).trans rfl; have hfz110_0 := blk_frozen BK255.out 0; have hfz110_1 := blk_frozen BK255.out 1; have hfz110_2 := blk_frozen BK255.out 2; have hfz110_3 := blk_frozen BK255.out 3; have hfz110_4 := blk_frozen BK255.out 4; have hcz111_0 : w107.cell? ⟨gb256, 0, none⟩ = some (.int .i64 0) := (blk_cell BK256.out 0).trans rfl; have hcz111_1 : w107.cell? ⟨gb256, 1, none⟩ = some (.int .i64 0) := (blk_cell BK256.out 1).trans rfl; have hcz111_2 : w107.cell? ⟨gb256, 2, none⟩ = some (.int .i64 0) := (blk_cell BK256.out 2).trans rfl; have hcz111_3 : w107.cell? ⟨gb256, 3, none⟩ = some (.int .i64 0) := (blk_cell BK256.out 3).trans rfl; have hcz111_4 : w107.cell? ⟨gb256, 4, none⟩ = some (.slice none 0 0) := (blk_cell BK256.out 4).trans rfl; have hfz111_0 := blk_frozen BK256.out 0; have hfz111_1 := blk_frozen BK256.out 1; have hfz111_2 := blk_frozen BK256.out 2; have hfz111_3 := blk_frozen BK256.out 3; have hfz111_4 := blk_frozen BK256.out 4))
                                  refine bodyPost_ret (results_ctt rfl _ _ gb256 24 #[.int .i64 a0_0, .int .i64 a0_1, .int .i64 a1, .int .i64 (wrap64 (a0_3 + a2)), .slice (some ⟨go93, 0, none⟩) t259.length co75] (0, 0) _ rfl (by (with_reducible repeat (first | refine blk_drewN ?_ _ | refine blk_drew ?_ | refine blk_alloc ?_ _)); refine blk_put (cs := #[.int .i64 a0_0, .int .i64 a0_1, .int .i64 a1, .int .i64 (wrap64 (a0_3 + a2)), .slice none 0 0]) ?_ 4 _ rfl; (with_reducible repeat (first | refine blk_drewN ?_ _ | refine blk_drew ?_ | refine blk_alloc ?_ _)); refine blk_put (cs := #[.int .i64 a0_0, .int .i64 a0_1, .int .i64 a1, .int .i64 0, .slice none 0 0]) ?_ 3 _ rfl; (with_reducible repeat (first | refine blk_drewN ?_ _ | refine blk_drew ?_ | refine blk_alloc ?_ _)); refine blk_put (cs := #[.int .i64 a0_0, .int .i64 a0_1, .int .i64 0, .int .i64 0, .slice none 0 0]) ?_ 2 _ rfl; (with_reducible repeat (first | refine blk_drewN ?_ _ | refine blk_drew ?_ | refine blk_alloc ?_ _)); refine blk_put (cs := #[.int .i64 a0_0, .int .i64 0, .int .i64 0, .int .i64 0, .slice none 0 0]) ?_ 1 _ rfl; (with_reducible repeat (first | refine blk_drewN ?_ _ | refine blk_drew ?_ | refine blk_alloc ?_ _)); refine blk_put (cs := #[.int .i64 0, .int .i64 0, .int .i64 0, .int .i64 0, .slice none 0 0]) ?_ 0 _ rfl; (with_reducible repeat (first | refine blk_drewN ?_ _ | refine blk_drew ?_ | refine blk_alloc ?_ _)); refine blk_far ?_ NB256_258.out _; (with_reducible repeat (first | refine blk_drewN ?_ _ | refine blk_drew ?_ | refine blk_alloc ?_ _)); exact BK256.out) Try.underlying24 rfl (by kernel_rfl)) rfl ?_
                                  exact ⟨_, by first | rfl | (simp [errW_none, errW_some] <;> rfl) | (simp only [← hji90]; first | rfl | (simp [errW_none, errW_some] <;> rfl)) | (simp [*, errW_none, errW_some] <;> rfl), by (with_reducible repeat (first | apply Kd.R_alloc | apply Kd.R_drewN | apply Kd.R_drew)); exact Kd.R_mono (Kd.R_far (p := ⟨gb256, 4, none⟩) (Kd.R_far (p := ⟨gb256, 3, none⟩) (Kd.R_far (p := ⟨gb256, 2, none⟩) (Kd.R_far (p := ⟨gb256, 1, none⟩) (Kd.R_far (p := ⟨gb256, 0, none⟩) (Kd.R_far (p := ⟨gb258, 3, none⟩) (Kd.R_types (Kd.R_types HO_259004.out BK258.out (by decide)) BK256.out (by decide)) (fun _ hk => hk.1.2) (.int .i64 (wrap64 (a0_3 + a2)))) (fun _ hk => hk.2) (.int .i64 a0_0)) (fun _ hk => hk.2) (.int .i64 a0_1)) (fun _ hk => hk.2) (.int .i64 a1)) (fun _ hk => hk.2) (.int .i64 (wrap64 (a0_3 + a2)))) (fun _ hk => hk.2) (.slice (some ⟨go93, 0, none⟩) t259.length co75)) (fun _ hk => trivial), by repeat (first | (with_reducible first | exact HB.out | apply below_alloc | apply pw_below_drewN | apply below_drew1 | refine below_set ?_ GE255.out | refine below_set ?_ GE256.out | refine below_set ?_ GE258.out) | exact HB.out)⟩
                              · rw [if_neg c92] at H
                                exact absurd H (by simp)
                            · rw [if_neg c91] at H
                              exact absurd H (by simp)
                          · replace c89 := Bool.eq_false_iff.mpr c89
                            subst c89
                            have H1 : (if t259.length < 8796093022208 then ((standbyref33_tidy.f kj65 (t259 ++ [(⟨a1, (wrap64 (t262 + a2))⟩ : S71)]) (wrap64 (t263 - a0_3))).bind fun t269 => (if (t269.length : Int) > 4096 then (some (0, 0, 0, 0, ([] : List (S71)), 0, 11)) else (some (a0_0, a0_1, a1, wrap64 (a0_3 + a2), t269, 0, 0)))) else (none)) = some (r1, r2, r3, r4, r5, r6, r7) := by rw [if_neg (show ¬ (false = true) by decide)] at H; exact H
                            clear H
                            have H := H1
                            clear H1
                            by_cases c112 : t259.length < 8796093022208
                            · rw [if_pos c112] at H
                              have LMc112 := Aside0.mk c112
                              clear c112
                              obtain ⟨y266, hy266⟩ : ∃ y_ : List (S71), y_ = (t259 ++ [(⟨a1, (wrap64 (t262 + a2))⟩ : S71)]) := ⟨_, rfl⟩
                              replace H : ((standbyref33_tidy.f kj65 y266 (wrap64 (t263 - a0_3))).bind fun t269 => (if (t269.length : Int) > 4096 then (some (0, 0, 0, 0, ([] : List (S71)), 0, 11)) else (some (a0_0, a0_1, a1, wrap64 (a0_3 + a2), t269, 0, 0)))) = some (r1, r2, r3, r4, r5, r6, r7) := by first | (rw [hy266]; with_reducible exact H) | (have H2_ := (Option.bind_some _ _).symm.trans H; rw [hy266]; with_reducible exact H2_) | (have H2_ := (Option.bind_some _ _).symm.trans H; with_reducible exact H2_) | with_reducible exact H | (rw [hy266]; exact H) | exact H
                              have Ny266 := Aside0.mk hy266
                              clear hy266
                              replace H := Option.bind_eq_some_iff.mp H
                              obtain ⟨t269, A1130, H⟩ := H
                              replace H : (if (t269.length : Int) > 4096 then (some (0, 0, 0, 0, ([] : List (S71)), 0, 11)) else (some (a0_0, a0_1, a1, wrap64 (a0_3 + a2), t269, 0, 0))) = some (r1, r2, r3, r4, r5, r6, r7) := H
                              have A113 := Aside0.mk A1130
                              clear A1130
                              by_cases c114 : (t269.length : Int) > 4096
                              · rw [if_pos c114] at H
                                have c114b0 : decide (4096 < (t269.length : Int)) = true := decide_eq_true c114
                                have c114b1 : decide (4096 < t269.length) = true := decide_eq_true (by omega)
                                clear c114
                                simp only [Option.some.injEq, Prod.mk.injEq] at H
                                obtain ⟨rfl, rfl, rfl, rfl, rfl, rfl, rfl⟩ := H
                                have hnb115 := NB258_255.out
                                have hnc115 := NB255_258.out
                                have hnb116 := NB258_256.out
                                have hnc116 := NB256_258.out
                                have hcz117_0 : wc.cell? ⟨gb258, 0, none⟩ = some (.int .i64 a0_0) := (blk_cell BK258.out 0).trans rfl
                                have hcz117_1 : wc.cell? ⟨gb258, 1, none⟩ = some (.int .i64 a0_1) := (blk_cell BK258.out 1).trans rfl
                                have hcz117_2 : wc.cell? ⟨gb258, 2, none⟩ = some (.int .i64 a1) := (blk_cell BK258.out 2).trans rfl
                                have hcz117_3 : wc.cell? ⟨gb258, 3, none⟩ = some (.int .i64 a0_3) := (blk_cell BK258.out 3).trans rfl
                                have hcz117_4 : wc.cell? ⟨gb258, 4, none⟩ = some (.slice Ao75 t259.length co75) := (blk_cell BK258.out 4).trans rfl
                                have hfz117_0 := blk_frozen BK258.out 0
                                have hfz117_1 := blk_frozen BK258.out 1
                                have hfz117_2 := blk_frozen BK258.out 2
                                have hfz117_3 := blk_frozen BK258.out 3
                                have hfz117_4 := blk_frozen BK258.out 4
                                go_wp2_with (first | ((with_reducible refine gate_builtin (b := .append) (xs := #[.tmp 111, .tmp 115]) rfl ?_); at_builtin; refine Kd.R_append k71 (w0 := w) w.heap.size rfl (.tmp 111) (.tmp 115) 22 71 (.agg #[(.int .i64 0), (.int .i64 0)]) 16 rfl Try.underlying22 info71 rfl (by decide) (by omega) (.slice Ao75 t259.length co75) t259 (⟨a1, (wrap64 (t262 + a2))⟩ : S71) [.int .i64 a1, .int .i64 (wrap64 (t262 + a2))] (fun _ => True) (fun _ => False) rfl rfl ?aP (fun _ hk => hk.elim) ?aF ?aO ?aB ?aS ?aL ?_; (case aP => exact k71_mkM _ _ _ (⟨a1, (wrap64 (t262 + a2))⟩ : S71)); (case aB => exact (by repeat (first | (with_reducible first | exact HB.out | apply below_alloc | apply pw_below_drewN | apply below_drew1 | refine below_set ?_ GE255.out | refine below_set ?_ GE256.out | refine below_set ?_ GE258.out) | exact HB.out))); (case aF => exact (fun _ _ => trivial)); (case aO => exact (by (with_reducible repeat (first | apply Kd.R_alloc | apply Kd.R_drewN | apply Kd.R_drew)); exact HO_259004.out)); (case aS => exact (below_size (by repeat (first | (with_reducible first | exact HB.out | apply below_alloc | apply pw_below_drewN | apply below_drew1 | refine below_set ?_ GE255.out | refine below_set ?_ GE256.out | refine below_set ?_ GE258.out) | exact HB.out)))); (case aL => have := LMc112.out; omega); intro v267 w118 ho hb hg hat; rw [← Ny266.out] at ho; have n0_ := Aside0.mk (blk_grown (g := gb255) (o := .cells #[.int .i64 a0_0, .int .i64 a0_1, .int .i64 a0_2, .int .i64 a0_3, .slice A0_4 l0_4.length c0_4] 24 (0, 0)) (by (with_reducible repeat (first | refine blk_drewN ?_ _ | refine blk_drew ?_ | refine blk_alloc ?_ _)); exact BK255.out) hg (Kd.R_ne HO_259004.out BK255.out (by decide))); have n1_ := Aside0.mk (blk_grown (g := gb256) (o := .cells #[.int .i64 0, .int .i64 0, .int .i64 0, .int .i64 0, .slice none 0 0] 24 (0, 0)) (by (with_reducible repeat (first | refine blk_drewN ?_ _ | refine blk_drew ?_ | refine blk_alloc ?_ _)); exact BK256.out) hg (Kd.R_ne HO_259004.out BK256.out (by decide))); have n2_ := Aside0.mk (blk_grown (g := gb258) (o := .cells #[.int .i64 a0_0, .int .i64 a0_1, .int .i64 a1, .int .i64 a0_3, .slice Ao75 t259.length co75] 24 (0, 0)) (by (with_reducible repeat (first | refine blk_drewN ?_ _ | refine blk_drew ?_ | refine blk_alloc ?_ _)); exact BK258.out) hg (Kd.R_ne HO_259004.out BK258.out (by decide))); have n3_ := Aside0.mk (hb); have n4_ := Aside0.mk (ho); clear BK255; clear BK256; clear BK258; clear HB; clear HO_259004; have BK255 := n0_; have BK256 := n1_; have BK258 := n2_; have HB := n3_; have HO268 := n4_; clear n0_ n1_ n2_ n3_ n4_; clear ho hb hg hat; obtain ⟨Ao119, co119, eo119⟩ := Kd.R_slice HO268.out; subst eo119) | ((with_reducible refine gate_callee (f := 34) rfl ?_); refine goesL_ (some 118) rfl rfl Try.func34 (by kernel_rfl) rfl #[.slice Ao119 y266.length co119, .int .i64 (wrap64 (t263 - a0_3))] rfl (by (try simp only [List.map_toArray, List.map_cons, List.map_nil]); first | done | rfl | (simp only [List.length_drop, List.length_take]; rfl)) ?_; (with_reducible refine (standbyref33_tidy.calls kj65 _ _ y266 (wrap64 (t263 - a0_3)) t269 _ ?side1 ?side2 A113.out).mono ?_); (case side1 => repeat (first | exact (Kd.R_reads' HO268.out).2.2 | (with_reducible refine Kd.C_alloc ?_ _) | (with_reducible refine Kd.C_drewN ?_ _) | (with_reducible refine Kd.C_drew ?_))); (case side2 => exact (Kd.R_reads' HO268.out).2.1); rintro e w120 ⟨v270, rfl, ho0, hb⟩; refine ⟨_, rfl, ?_⟩; have n0_ := Aside0.mk (Kd.R_elder' (by (with_reducible repeat (first | apply Kd.R_alloc | apply Kd.R_drewN | apply Kd.R_drew)); exact HO268.out) (Kd.R_base ho0) hb); have n1_ := Aside0.mk (Kd.R_lower (Kd.R_new' ho0 (Kd.R_lt (by (with_reducible repeat (first | apply Kd.R_alloc | apply Kd.R_drewN | apply Kd.R_drew)); exact HO268.out))) (below_size (by repeat (first | (with_reducible first | exact HB.out | apply below_alloc | apply pw_below_drewN | apply below_drew1 | refine below_set ?_ GE255.out | refine below_set ?_ GE256.out | refine below_set ?_ GE258.out) | exact HB.out)))); have n2_ := Aside0.mk (blk_below (g := gb255) (o := .cells #[.int .i64 a0_0, .int .i64 a0_1, .int .i64 a0_2, .int .i64 a0_3, .slice A0_4 l0_4.length c0_4] 24 (0, 0)) (by (with_reducible repeat (first | refine blk_drewN ?_ _ | refine blk_drew ?_ | refine blk_alloc ?_ _)); exact BK255.out) hb); have n3_ := Aside0.mk (blk_below (g := gb256) (o := .cells #[.int .i64 0, .int .i64 0, .int .i64 0, .int .i64 0, .slice none 0 0] 24 (0, 0)) (by (with_reducible repeat (first | refine blk_drewN ?_ _ | refine blk_drew ?_ | refine blk_alloc ?_ _)); exact BK256.out) hb); have n4_ := Aside0.mk (blk_below (g := gb258) (o := .cells #[.int .i64 a0_0, .int .i64 a0_1, .int .i64 a1, .int .i64 a0_3, .slice Ao75 t259.length co75] 24 (0, 0)) (by (with_reducible repeat (first | refine blk_drewN ?_ _ | refine blk_drew ?_ | refine blk_alloc ?_ _)); exact BK258.out) hb); have n5_ := Aside0.mk (below_step (by repeat (first | (with_reducible first | exact HB.out | apply below_alloc | apply pw_below_drewN | apply below_drew1 | refine below_set ?_ GE255.out | refine below_set ?_ GE256.out | refine below_set ?_ GE258.out) | exact HB.out)) hb); clear HO268; clear BK255; clear BK256; clear BK258; clear HB; have HO268 := n0_; have HO271 := n1_; have BK255 := n2_; have BK256 := n3_; have BK258 := n4_; have HB := n5_; clear n0_ n1_ n2_ n3_ n4_ n5_; (try clear hb); (try clear hb2); (try clear hk); (try clear hi); (try clear ho0); obtain ⟨Ao121, co121, eo121⟩ := Kd.R_slice HO271.out; subst eo121; have hcz122_0 : w120.cell? ⟨gb258, 0, none⟩ = some (.int .i64 a0_0) := (blk_cell BK258.out 0).trans rfl; have hcz122_1 : w120.cell? ⟨gb258, 1, none⟩ = some (.int .i64 a0_1) := (blk_cell BK258.out 1).trans rfl; have hcz122_2 : w120.cell? ⟨gb258, 2, none⟩ = some (.int .i64 a1) := (blk_cell BK258.out 2).trans rfl; have hcz122_3 : w120.cell? ⟨gb258, 3, none⟩ = some (.int .i64 a0_3) := (blk_cell BK258.out 3).trans rfl; have hcz122_4 : w120.cell? ⟨gb258, 4, none⟩ = some (.slice Ao75 t259.length co75) := (blk_cell BK258.out 4).trans rfl; have hfz122_0 := blk_frozen BK258.out 0; have hfz122_1 := blk_frozen BK258.out 1; have hfz122_2 := blk_frozen BK258.out 2; have hfz122_3 := blk_frozen BK258.out 3; have hfz122_4 := blk_frozen BK258.out 4; have hnb123 := NB256_255.out; have hnc123 := NB255_256.out; have hcz124_0 : w120.cell? ⟨gb256, 0, none⟩ = some (.int .i64 0) := (blk_cell BK256.out 0).trans rfl; have hcz124_1 : w120.cell? ⟨gb256, 1, none⟩ = some (.int .i64 0) := (blk_cell BK256.out 1).trans rfl; have hcz124_2 : w120.cell? ⟨gb256, 2, none⟩ = some (.int .i64 0) := (blk_cell BK256.out 2).trans rfl; have hcz124_3 : w120.cell? ⟨gb256, 3, none⟩ = some (.int .i64 0) := (blk_cell BK256.out 3).trans rfl; have hcz124_4 : w120.cell? ⟨gb256, 4, none⟩ = some (.slice none 0 0) := (blk_cell BK256.out 4).trans rfl; have hfz124_0 := blk_frozen BK256.out 0; have hfz124_1 := blk_frozen BK256.out 1; have hfz124_2 := blk_frozen BK256.out 2; have hfz124_3 := blk_frozen BK256.out 3; have hfz124_4 := blk_frozen BK256.out 4))
                                refine bodyPost_ret (results_ctt rfl _ _ gb256 24 #[.int .i64 0, .int .i64 0, .int .i64 0, .int .i64 0, .slice none 0 0] (0, 0) _ rfl (by (with_reducible repeat (first | refine blk_drewN ?_ _ | refine blk_drew ?_ | refine blk_alloc ?_ _)); refine blk_put (cs := #[.int .i64 0, .int .i64 0, .int .i64 0, .int .i64 0, .slice none 0 0]) ?_ 4 _ rfl; (with_reducible repeat (first | refine blk_drewN ?_ _ | refine blk_drew ?_ | refine blk_alloc ?_ _)); refine blk_put (cs := #[.int .i64 0, .int .i64 0, .int .i64 0, .int .i64 0, .slice none 0 0]) ?_ 3 _ rfl; (with_reducible repeat (first | refine blk_drewN ?_ _ | refine blk_drew ?_ | refine blk_alloc ?_ _)); refine blk_put (cs := #[.int .i64 0, .int .i64 0, .int .i64 0, .int .i64 0, .slice none 0 0]) ?_ 2 _ rfl; (with_reducible repeat (first | refine blk_drewN ?_ _ | refine blk_drew ?_ | refine blk_alloc ?_ _)); refine blk_put (cs := #[.int .i64 0, .int .i64 0, .int .i64 0, .int .i64 0, .slice none 0 0]) ?_ 1 _ rfl; (with_reducible repeat (first | refine blk_drewN ?_ _ | refine blk_drew ?_ | refine blk_alloc ?_ _)); refine blk_put (cs := #[.int .i64 0, .int .i64 0, .int .i64 0, .int .i64 0, .slice none 0 0]) ?_ 0 _ rfl; (with_reducible repeat (first | refine blk_drewN ?_ _ | refine blk_drew ?_ | refine blk_alloc ?_ _)); refine blk_far ?_ NB256_258.out _; (with_reducible repeat (first | refine blk_drewN ?_ _ | refine blk_drew ?_ | refine blk_alloc ?_ _)); exact BK256.out) Try.underlying24 rfl (by kernel_rfl)) rfl ?_
                                exact ⟨_, by first | rfl | (simp [errW_none, errW_some] <;> rfl) | (simp [*, errW_none, errW_some] <;> rfl), by first | exact Kd.R_nil _ _ _ _ _ | exact Kd.N_nil _ _ _ _ _ | exact Kd.V_nil _ _ _ _ _ | exact Kd.Q_nil _ _ _ _ _ | exact Kd.S_nil _ _ _ _ _, by repeat (first | (with_reducible first | exact HB.out | apply below_alloc | apply pw_below_drewN | apply below_drew1 | refine below_set ?_ GE255.out | refine below_set ?_ GE256.out | refine below_set ?_ GE258.out) | exact HB.out)⟩
                              · rw [if_neg c114] at H
                                have c114b0 : decide (4096 < (t269.length : Int)) = false := decide_eq_false c114
                                have c114b1 : decide (4096 < t269.length) = false := decide_eq_false (by omega)
                                clear c114
                                simp only [Option.some.injEq, Prod.mk.injEq] at H
                                obtain ⟨rfl, rfl, rfl, rfl, rfl, rfl, rfl⟩ := H
                                have hnb125 := NB258_255.out
                                have hnc125 := NB255_258.out
                                have hnb126 := NB258_256.out
                                have hnc126 := NB256_258.out
                                have hcz127_0 : wc.cell? ⟨gb258, 0, none⟩ = some (.int .i64 a0_0) := (blk_cell BK258.out 0).trans rfl
                                have hcz127_1 : wc.cell? ⟨gb258, 1, none⟩ = some (.int .i64 a0_1) := (blk_cell BK258.out 1).trans rfl
                                have hcz127_2 : wc.cell? ⟨gb258, 2, none⟩ = some (.int .i64 a1) := (blk_cell BK258.out 2).trans rfl
                                have hcz127_3 : wc.cell? ⟨gb258, 3, none⟩ = some (.int .i64 a0_3) := (blk_cell BK258.out 3).trans rfl
                                have hcz127_4 : wc.cell? ⟨gb258, 4, none⟩ = some (.slice Ao75 t259.length co75) := (blk_cell BK258.out 4).trans rfl
                                have hfz127_0 := blk_frozen BK258.out 0
                                have hfz127_1 := blk_frozen BK258.out 1
                                have hfz127_2 := blk_frozen BK258.out 2
                                have hfz127_3 := blk_frozen BK258.out 3
                                have hfz127_4 := blk_frozen BK258.out 4
                                go_wp2_with (first | ((with_reducible refine gate_builtin (b := .append) (xs := #[.tmp 111, .tmp 115]) rfl ?_); at_builtin; refine Kd.R_append k71 (w0 := w) w.heap.size rfl (.tmp 111) (.tmp 115) 22 71 (.agg #[(.int .i64 0), (.int .i64 0)]) 16 rfl Try.underlying22 info71 rfl (by decide) (by omega) (.slice Ao75 t259.length co75) t259 (⟨a1, (wrap64 (t262 + a2))⟩ : S71) [.int .i64 a1, .int .i64 (wrap64 (t262 + a2))] (fun _ => True) (fun _ => False) rfl rfl ?aP (fun _ hk => hk.elim) ?aF ?aO ?aB ?aS ?aL ?_; (case aP => exact k71_mkM _ _ _ (⟨a1, (wrap64 (t262 + a2))⟩ : S71)); (case aB => exact (by repeat (first | (with_reducible first | exact HB.out | apply below_alloc | apply pw_below_drewN | apply below_drew1 | refine below_set ?_ GE255.out | refine below_set ?_ GE256.out | refine below_set ?_ GE258.out) | exact HB.out))); (case aF => exact (fun _ _ => trivial)); (case aO => exact (by (with_reducible repeat (first | apply Kd.R_alloc | apply Kd.R_drewN | apply Kd.R_drew)); exact HO_259004.out)); (case aS => exact (below_size (by repeat (first | (with_reducible first | exact HB.out | apply below_alloc | apply pw_below_drewN | apply below_drew1 | refine below_set ?_ GE255.out | refine below_set ?_ GE256.out | refine below_set ?_ GE258.out) | exact HB.out)))); (case aL => have := LMc112.out; omega); intro v267 w128 ho hb hg hat; rw [← Ny266.out] at ho; have n0_ := Aside0.mk (blk_grown (g := gb255) (o := .cells #[.int .i64 a0_0, .int .i64 a0_1, .int .i64 a0_2, .int .i64 a0_3, .slice A0_4 l0_4.length c0_4] 24 (0, 0)) (by (with_reducible repeat (first | refine blk_drewN ?_ _ | refine blk_drew ?_ | refine blk_alloc ?_ _)); exact BK255.out) hg (Kd.R_ne HO_259004.out BK255.out (by decide))); have n1_ := Aside0.mk (blk_grown (g := gb256) (o := .cells #[.int .i64 0, .int .i64 0, .int .i64 0, .int .i64 0, .slice none 0 0] 24 (0, 0)) (by (with_reducible repeat (first | refine blk_drewN ?_ _ | refine blk_drew ?_ | refine blk_alloc ?_ _)); exact BK256.out) hg (Kd.R_ne HO_259004.out BK256.out (by decide))); have n2_ := Aside0.mk (blk_grown (g := gb258) (o := .cells #[.int .i64 a0_0, .int .i64 a0_1, .int .i64 a1, .int .i64 a0_3, .slice Ao75 t259.length co75] 24 (0, 0)) (by (with_reducible repeat (first | refine blk_drewN ?_ _ | refine blk_drew ?_ | refine blk_alloc ?_ _)); exact BK258.out) hg (Kd.R_ne HO_259004.out BK258.out (by decide))); have n3_ := Aside0.mk (hb); have n4_ := Aside0.mk (ho); clear BK255; clear BK256; clear BK258; clear HB; clear HO_259004; have BK255 := n0_; have BK256 := n1_; have BK258 := n2_; have HB := n3_; have HO268 := n4_; clear n0_ n1_ n2_ n3_ n4_; clear ho hb hg hat; obtain ⟨Ao129, co129, eo129⟩ := Kd.R_slice HO268.out; subst eo129) | ((with_reducible refine gate_callee (f := 34) rfl ?_); refine goesL_ (some 118) rfl rfl Try.func34 (by kernel_rfl) rfl #[.slice Ao129 y266.length co129, .int .i64 (wrap64 (t263 - a0_3))] rfl (by (try simp only [List.map_toArray, List.map_cons, List.map_nil]); first | done | rfl | (simp only [List.length_drop, List.length_take]; rfl)) ?_; (with_reducible refine (standbyref33_tidy.calls kj65 _ _ y266 (wrap64 (t263 - a0_3)) t269 _ ?side1 ?side2 A113.out).mono ?_); (case side1 => repeat (first | exact (Kd.R_reads' HO268.out).2.2 | (with_reducible refine Kd.C_alloc ?_ _) | (with_reducible refine Kd.C_drewN ?_ _) | (with_reducible refine Kd.C_drew ?_))); (case side2 => exact (Kd.R_reads' HO268.out).2.1); rintro e w130 ⟨v270, rfl, ho0, hb⟩; refine ⟨_, rfl, ?_⟩; have n0_ := Aside0.mk (Kd.R_elder' (by (with_reducible repeat (first | apply Kd.R_alloc | apply Kd.R_drewN | apply Kd.R_drew)); exact HO268.out) (Kd.R_base ho0) hb); have n1_ := Aside0.mk (Kd.R_lower (Kd.R_new' ho0 (Kd.R_lt (by (with_reducible repeat (first | apply Kd.R_alloc | apply Kd.R_drewN | apply Kd.R_drew)); exact HO268.out))) (below_size (by repeat (first | (with_reducible first | exact HB.out | apply below_alloc | apply pw_below_drewN | apply below_drew1 | refine below_set ?_ GE255.out | refine below_set ?_ GE256.out | refine below_set ?_ GE258.out) | exact HB.out)))); have n2_ := Aside0.mk (blk_below (g := gb255) (o := .cells #[.int .i64 a0_0, .int .i64 a0_1, .int .i64 a0_2, .int .i64 a0_3, .slice A0_4 l0_4.length c0_4] 24 (0, 0)) (by (with_reducible repeat (first | refine blk_drewN ?_ _ | refine blk_drew ?_ | refine blk_alloc ?_ _)); exact BK255.out) hb); have n3_ := Aside0.mk (blk_below (g := gb256) (o := .cells #[.int .i64 0, .int .i64 0, .int .i64 0, .int .i64 0, .slice none 0 0] 24 (0, 0)) (by (with_reducible repeat (first | refine blk_drewN ?_ _ | refine blk_drew ?_ | refine blk_alloc ?_ _)); exact BK256.out) hb); have n4_ := Aside0.mk (blk_below (g := gb258) (o := .cells #[.int .i64 a0_0, .int .i64 a0_1, .int .i64 a1, .int .i64 a0_3, .slice Ao75 t259.length co75] 24 (0, 0)) (by (with_reducible repeat (first | refine blk_drewN ?_ _ | refine blk_drew ?_ | refine blk_alloc ?_ _)); exact BK258.out) hb); have n5_ := Aside0.mk (below_step (by repeat (first | (with_reducible first | exact HB.out | apply below_alloc | apply pw_below_drewN | apply below_drew1 | refine below_set ?_ GE255.out | refine below_set ?_ GE256.out | refine below_set ?_ GE258.out) | exact HB.out)) hb); clear HO268; clear BK255; clear BK256; clear BK258; clear HB; have HO268 := n0_; have HO271 := n1_; have BK255 := n2_; have BK256 := n3_; have BK258 := n4_; have HB := n5_; clear n0_ n1_ n2_ n3_ n4_ n5_; (try clear hb); (try clear hb2); (try clear hk); (try clear hi); (try clear ho0); obtain ⟨Ao131, co131, eo131⟩ := Kd.R_slice HO271.out; subst eo131; have hcz132_0 : w130.cell? ⟨gb258, 0, none⟩ = some (.int .i64 a0_0) := (blk_cell BK258.out 0).trans rfl; have hcz132_1 : w130.cell? ⟨gb258, 1, none⟩ = some (.int .i64 a0_1) := (blk_cell BK258.out 1).trans rfl; have hcz132_2 : w130.cell? ⟨gb258, 2, none⟩ = some (.int .i64 a1) := (blk_cell BK258.out 2).trans rfl; have hcz132_3 : w130.cell? ⟨gb258, 3, none⟩ = some (.int .i64 a0_3) := (blk_cell BK258.out 3).trans rfl; have hcz132_4 : w130.cell? ⟨gb258, 4, none⟩ = some (.slice Ao75 t259.length co75) := (blk_cell BK258.out 4).trans rfl; have hfz132_0 := blk_frozen BK258.out 0; have hfz132_1 := blk_frozen BK258.out 1; have hfz132_2 := blk_frozen BK258.out 2; have hfz132_3 := blk_frozen BK258.out 3; have hfz132_4 := blk_frozen BK258.out 4; have hnb133 := NB255_256.out; have hnc133 := NB256_255.out; have hcz134_0 : w130.cell? ⟨gb255, 0, none⟩ = some (.int .i64 a0_0) := (blk_cell BK255.out 0).trans rfl; have hcz134_1 : w130.cell? ⟨gb255, 1, none⟩ = some (.int .i64 a0_1) := (blk_cell BK255.out 1).trans rfl; have hcz134_2 : w130.cell? ⟨gb255, 2, none⟩ = some (.int .i64 a0_2) := (blk_cell BK255.out 2).trans rfl; have hcz134_3 : w130.cell? ⟨gb255, 3, none⟩ = some (.int .i64 a0_3) := (blk_cell BK255.out 3).trans rfl; have hcz134_4 : w130.cell? ⟨gb255, 4, none⟩ = some (.slice A0_4 l0_4.length c0_4) := (blk_cell BK255.out 4).trans rfl; have hfz134_0 := blk_frozen BK255.out 0; have hfz134_1 := blk_frozen BK255.out 1; have hfz134_2 := blk_frozen BK255.out 2; have hfz134_3 := blk_frozen BK255.out 3; have hfz134_4 := blk_frozen BK255.out 4; have hcz135_0 : w130.cell? ⟨gb256, 0, none⟩ = some (.int .i64 0) := (blk_cell BK256.out 0).trans rfl; have hcz135_1 : w130.cell? ⟨gb256, 1, none⟩ = some (.int .i64 0) := (blk_cell BK256.out 1).trans rfl; have hcz135_2 : w130.cell? ⟨gb256, 2, none⟩ = some (.int .i64 0) := (blk_cell BK256.out 2).trans rfl; have hcz135_3 : w130.cell? ⟨gb256, 3, none⟩ = some (.int .i64 0) := (blk_cell BK256.out 3).trans rfl; have hcz135_4 : w130.cell? ⟨gb256, 4, none⟩ = some (.slice none 0 0) := (blk_cell BK256.out 4).trans rfl; have hfz135_0 := blk_frozen BK256.out 0; have hfz135_1 := blk_frozen BK256.out 1; have hfz135_2 := blk_frozen BK256.out 2; have hfz135_3 := blk_frozen BK256.out 3; have hfz135_4 := blk_frozen BK256.out 4))
                                refine bodyPost_ret (results_ctt rfl _ _ gb256 24 #[.int .i64 a0_0, .int .i64 a0_1, .int .i64 a1, .int .i64 (wrap64 (a0_3 + a2)), .slice Ao131 t269.length co131] (0, 0) _ rfl (by (with_reducible repeat (first | refine blk_drewN ?_ _ | refine blk_drew ?_ | refine blk_alloc ?_ _)); refine blk_put (cs := #[.int .i64 a0_0, .int .i64 a0_1, .int .i64 a1, .int .i64 (wrap64 (a0_3 + a2)), .slice none 0 0]) ?_ 4 _ rfl; (with_reducible repeat (first | refine blk_drewN ?_ _ | refine blk_drew ?_ | refine blk_alloc ?_ _)); refine blk_put (cs := #[.int .i64 a0_0, .int .i64 a0_1, .int .i64 a1, .int .i64 0, .slice none 0 0]) ?_ 3 _ rfl; (with_reducible repeat (first | refine blk_drewN ?_ _ | refine blk_drew ?_ | refine blk_alloc ?_ _)); refine blk_put (cs := #[.int .i64 a0_0, .int .i64 a0_1, .int .i64 0, .int .i64 0, .slice none 0 0]) ?_ 2 _ rfl; (with_reducible repeat (first | refine blk_drewN ?_ _ | refine blk_drew ?_ | refine blk_alloc ?_ _)); refine blk_put (cs := #[.int .i64 a0_0, .int .i64 0, .int .i64 0, .int .i64 0, .slice none 0 0]) ?_ 1 _ rfl; (with_reducible repeat (first | refine blk_drewN ?_ _ | refine blk_drew ?_ | refine blk_alloc ?_ _)); refine blk_put (cs := #[.int .i64 0, .int .i64 0, .int .i64 0, .int .i64 0, .slice none 0 0]) ?_ 0 _ rfl; (with_reducible repeat (first | refine blk_drewN ?_ _ | refine blk_drew ?_ | refine blk_alloc ?_ _)); refine blk_far ?_ NB256_258.out _; (with_reducible repeat (first | refine blk_drewN ?_ _ | refine blk_drew ?_ | refine blk_alloc ?_ _)); refine blk_far ?_ NB256_258.out _; (with_reducible repeat (first | refine blk_drewN ?_ _ | refine blk_drew ?_ | refine blk_alloc ?_ _)); exact BK256.out) Try.underlying24 rfl (by kernel_rfl)) rfl ?_
                                exact ⟨_, by first | rfl | (simp [errW_none, errW_some] <;> rfl) | (simp [*, errW_none, errW_some] <;> rfl), by (with_reducible repeat (first | apply Kd.R_alloc | apply Kd.R_drewN | apply Kd.R_drew)); exact Kd.R_mono (Kd.R_far (p := ⟨gb256, 4, none⟩) (Kd.R_far (p := ⟨gb256, 3, none⟩) (Kd.R_far (p := ⟨gb256, 2, none⟩) (Kd.R_far (p := ⟨gb256, 1, none⟩) (Kd.R_far (p := ⟨gb256, 0, none⟩) (Kd.R_far (p := ⟨gb258, 3, none⟩) (Kd.R_far (p := ⟨gb258, 4, none⟩) (Kd.R_types (Kd.R_types HO271.out BK258.out (by decide)) BK256.out (by decide)) (fun _ hk => hk.1.2) (.slice Ao131 t269.length co131)) (fun _ hk => hk.1.2) (.int .i64 (wrap64 (a0_3 + a2)))) (fun _ hk => hk.2) (.int .i64 a0_0)) (fun _ hk => hk.2) (.int .i64 a0_1)) (fun _ hk => hk.2) (.int .i64 a1)) (fun _ hk => hk.2) (.int .i64 (wrap64 (a0_3 + a2)))) (fun _ hk => hk.2) (.slice Ao131 t269.length co131)) (fun _ hk => trivial), by repeat (first | (with_reducible first | exact HB.out | apply below_alloc | apply pw_below_drewN | apply below_drew1 | refine below_set ?_ GE255.out | refine below_set ?_ GE256.out | refine below_set ?_ GE258.out) | exact HB.out)⟩
                            · rw [if_neg c112] at H
                              exact absurd H (by simp)
  · rw [if_neg c5] at H
    have c5b0 : (t257 == 0) = false := beq_eq_false_iff_ne.mpr c5
    have c5b1 : (t257 != 0) = true := bne_iff_ne.mpr c5
    simp only [Option.some.injEq, Prod.mk.injEq] at H
    obtain ⟨rfl, rfl, rfl, rfl, rfl, rfl, rfl⟩ := H
    go_enter Try.func17, Try.ntmps17
    go_wp2_with (first | ((with_reducible refine gate_dst (N := 3) rfl ?_); refine box_event ?hg (N := 3) ?hd (cs := #[.int .i64 a0_0, .int .i64 a0_1, .int .i64 a0_2, .int .i64 a0_3, .slice A0_4 l0_4.length c0_4]) (t := 24) ?hr ?_; (case hd => rfl); (case hg => rfl); (case hr => first | (go_simp; done) | (go_simp; rfl)); intro gb255 hg w136 hbox hb; have n0_ := Aside0.mk (below_step (by repeat (first | (with_reducible first | exact HB.out | apply below_alloc | apply pw_below_drewN | apply below_drew1) | exact HB.out)) hb); have n1_ := Aside0.mk (hbox); have n2_ := Aside0.mk ((by rw [hg]; exact (below_size (by repeat (first | (with_reducible first | exact HB.out | apply below_alloc | apply pw_below_drewN | apply below_drew1) | exact HB.out))) : w.heap.size ≤ gb255)); have n3_ := Aside0.mk ((by rw [hg]; exact (below_size (by repeat (first | (with_reducible first | exact HB.out | apply below_alloc | apply pw_below_drewN | apply below_drew1) | exact HB.out))) : w.heap.size ≤ gb255)); clear HB; have HB := n0_; have BK255 := n1_; have GW255 := n2_; have GE255 := n3_; clear n0_ n1_ n2_ n3_; clear hb hbox hg) | ((with_reducible refine gate_dst (N := 6) rfl ?_); refine box_event ?hg (N := 6) ?hd (cs := #[.int .i64 0, .int .i64 0, .int .i64 0, .int .i64 0, .slice none 0 0]) (t := 24) ?hr ?_; (case hd => rfl); (case hg => rfl); (case hr => first | (go_simp; done) | (go_simp; rfl)); intro gb256 hg w137 hbox hb; have n0_ := Aside0.mk (blk_below (g := gb255) (o := .cells #[.int .i64 a0_0, .int .i64 a0_1, .int .i64 a0_2, .int .i64 a0_3, .slice A0_4 l0_4.length c0_4] 24 (0, 0)) (by (with_reducible repeat (first | refine blk_drewN ?_ _ | refine blk_drew ?_ | refine blk_alloc ?_ _)); exact BK255.out) hb); have n1_ := Aside0.mk (below_step (by repeat (first | (with_reducible first | exact HB.out | apply below_alloc | apply pw_below_drewN | apply below_drew1 | refine below_set ?_ GE255.out) | exact HB.out)) hb); have n2_ := Aside0.mk (hbox); have n3_ := Aside0.mk ((by rw [hg]; exact (below_size (by repeat (first | (with_reducible first | exact HB.out | apply below_alloc | apply pw_below_drewN | apply below_drew1 | refine below_set ?_ GE255.out) | exact HB.out))) : w.heap.size ≤ gb256)); have n4_ := Aside0.mk ((by rw [hg]; exact (below_size (by repeat (first | (with_reducible first | exact HB.out | apply below_alloc | apply pw_below_drewN | apply below_drew1 | refine below_set ?_ GE255.out) | exact HB.out))) : w.heap.size ≤ gb256)); have n5_ := Aside0.mk ((by rw [hg]; exact Nat.ne_of_lt (blk_lt (g := gb255) (o := .cells #[.int .i64 a0_0, .int .i64 a0_1, .int .i64 a0_2, .int .i64 a0_3, .slice A0_4 l0_4.length c0_4] 24 (0, 0)) (by (with_reducible repeat (first | refine blk_drewN ?_ _ | refine blk_drew ?_ | refine blk_alloc ?_ _)); exact BK255.out)) : gb255 ≠ gb256)); have n6_ := Aside0.mk ((by rw [hg]; exact Nat.ne_of_gt (blk_lt (g := gb255) (o := .cells #[.int .i64 a0_0, .int .i64 a0_1, .int .i64 a0_2, .int .i64 a0_3, .slice A0_4 l0_4.length c0_4] 24 (0, 0)) (by (with_reducible repeat (first | refine blk_drewN ?_ _ | refine blk_drew ?_ | refine blk_alloc ?_ _)); exact BK255.out)) : gb256 ≠ gb255)); clear BK255; clear HB; have BK255 := n0_; have HB := n1_; have BK256 := n2_; have GW256 := n3_; have GE256 := n4_; have NB255_256 := n5_; have NB256_255 := n6_; clear n0_ n1_ n2_ n3_ n4_ n5_ n6_; clear hb hbox hg; have hnb138 := NB255_256.out; have hnc138 := NB256_255.out; have hcz139_0 : w137.cell? ⟨gb255, 0, none⟩ = some (.int .i64 a0_0) := (blk_cell BK255.out 0).trans rfl; have hcz139_1 : w137.cell? ⟨gb255, 1, none⟩ = some (.int .i64 a0_1) := (blk_cell BK255.out 1).trans rfl; have hcz139_2 : w137.cell? ⟨gb255, 2, none⟩ = some (.int .i64 a0_2) := (blk_cell BK255.out 2).trans rfl; have hcz139_3 : w137.cell? ⟨gb255, 3, none⟩ = some (.int .i64 a0_3) := (blk_cell BK255.out 3).trans rfl; have hcz139_4 : w137.cell? ⟨gb255, 4, none⟩ = some (.slice A0_4 l0_4.length c0_4) := (blk_cell BK255.out 4).trans rfl; have hfz139_0 := blk_frozen BK255.out 0; have hfz139_1 := blk_frozen BK255.out 1; have hfz139_2 := blk_frozen BK255.out 2; have hfz139_3 := blk_frozen BK255.out 3; have hfz139_4 := blk_frozen BK255.out 4) | ((with_reducible refine gate_callee (f := 15) rfl ?_); refine goesL_ (some 16) rfl rfl Try.func15 (by kernel_rfl) rfl #[.agg #[.int .i64 a0_0, .int .i64 a0_1, .int .i64 a0_2, .int .i64 a0_3, .slice A0_4 l0_4.length c0_4]] rfl (by (try simp only [List.map_toArray, List.map_cons, List.map_nil]); first | done | rfl | (simp only [List.length_drop, List.length_take]; rfl)) ?_; (with_reducible refine (standbyref33_Check.calls k a0_0 a0_1 a0_2 a0_3 _ _ l0_4 t257 _ ?side1 ?side2 A4.out).mono ?_); (case side1 => repeat (first | exact (Kd.C_below HR0_4.out HB.out) | (with_reducible refine Kd.C_alloc ?_ _) | (with_reducible refine Kd.C_drewN ?_ _) | (with_reducible refine Kd.C_drew ?_))); (case side2 => exact HC0_4.out); rintro e w140 ⟨rfl, hb⟩; refine ⟨_, rfl, ?_⟩; have n0_ := Aside0.mk (blk_below (g := gb255) (o := .cells #[.int .i64 a0_0, .int .i64 a0_1, .int .i64 a0_2, .int .i64 a0_3, .slice A0_4 l0_4.length c0_4] 24 (0, 0)) (by (with_reducible repeat (first | refine blk_drewN ?_ _ | refine blk_drew ?_ | refine blk_alloc ?_ _)); exact BK255.out) hb); have n1_ := Aside0.mk (blk_below (g := gb256) (o := .cells #[.int .i64 0, .int .i64 0, .int .i64 0, .int .i64 0, .slice none 0 0] 24 (0, 0)) (by (with_reducible repeat (first | refine blk_drewN ?_ _ | refine blk_drew ?_ | refine blk_alloc ?_ _)); exact BK256.out) hb); have n2_ := Aside0.mk (below_step (by repeat (first | (with_reducible first | exact HB.out | apply below_alloc | apply pw_below_drewN | apply below_drew1 | refine below_set ?_ GE255.out | refine below_set ?_ GE256.out) | exact HB.out)) hb); clear BK255; clear BK256; clear HB; have BK255 := n0_; have BK256 := n1_; have HB := n2_; clear n0_ n1_ n2_; (try clear hb); (try clear hb2); (try clear hk); (try clear hi); have hcz141_0 : w140.cell? ⟨gb256, 0, none⟩ = some (.int .i64 0) := (blk_cell BK256.out 0).trans rfl; have hcz141_1 : w140.cell? ⟨gb256, 1, none⟩ = some (.int .i64 0) := (blk_cell BK256.out 1).trans rfl; have hcz141_2 : w140.cell? ⟨gb256, 2, none⟩ = some (.int .i64 0) := (blk_cell BK256.out 2).trans rfl; have hcz141_3 : w140.cell? ⟨gb256, 3, none⟩ = some (.int .i64 0) := (blk_cell BK256.out 3).trans rfl; have hcz141_4 : w140.cell? ⟨gb256, 4, none⟩ = some (.slice none 0 0) := (blk_cell BK256.out 4).trans rfl; have hfz141_0 := blk_frozen BK256.out 0; have hfz141_1 := blk_frozen BK256.out 1; have hfz141_2 := blk_frozen BK256.out 2; have hfz141_3 := blk_frozen BK256.out 3; have hfz141_4 := blk_frozen BK256.out 4))
    refine bodyPost_ret (results_ctt rfl _ _ gb256 24 #[.int .i64 0, .int .i64 0, .int .i64 0, .int .i64 0, .slice none 0 0] (0, 0) _ rfl (by (with_reducible repeat (first | refine blk_drewN ?_ _ | refine blk_drew ?_ | refine blk_alloc ?_ _)); refine blk_put (cs := #[.int .i64 0, .int .i64 0, .int .i64 0, .int .i64 0, .slice none 0 0]) ?_ 4 _ rfl; (with_reducible repeat (first | refine blk_drewN ?_ _ | refine blk_drew ?_ | refine blk_alloc ?_ _)); refine blk_put (cs := #[.int .i64 0, .int .i64 0, .int .i64 0, .int .i64 0, .slice none 0 0]) ?_ 3 _ rfl; (with_reducible repeat (first | refine blk_drewN ?_ _ | refine blk_drew ?_ | refine blk_alloc ?_ _)); refine blk_put (cs := #[.int .i64 0, .int .i64 0, .int .i64 0, .int .i64 0, .slice none 0 0]) ?_ 2 _ rfl; (with_reducible repeat (first | refine blk_drewN ?_ _ | refine blk_drew ?_ | refine blk_alloc ?_ _)); refine blk_put (cs := #[.int .i64 0, .int .i64 0, .int .i64 0, .int .i64 0, .slice none 0 0]) ?_ 1 _ rfl; (with_reducible repeat (first | refine blk_drewN ?_ _ | refine blk_drew ?_ | refine blk_alloc ?_ _)); refine blk_put (cs := #[.int .i64 0, .int .i64 0, .int .i64 0, .int .i64 0, .slice none 0 0]) ?_ 0 _ rfl; (with_reducible repeat (first | refine blk_drewN ?_ _ | refine blk_drew ?_ | refine blk_alloc ?_ _)); exact BK256.out) Try.underlying24 rfl (by kernel_rfl)) rfl ?_
    exact ⟨_, by first | rfl | (simp [errW_none, errW_some] <;> rfl) | (simp [*, errW_none, errW_some] <;> rfl), by first | exact Kd.R_nil _ _ _ _ _ | exact Kd.N_nil _ _ _ _ _ | exact Kd.V_nil _ _ _ _ _ | exact Kd.Q_nil _ _ _ _ _ | exact Kd.S_nil _ _ _ _ _, by repeat (first | (with_reducible first | exact HB.out | apply below_alloc | apply pw_below_drewN | apply below_drew1 | refine below_set ?_ GE255.out | refine below_set ?_ GE256.out) | exact HB.out)⟩

end Go.Proofs.Ytppniempndnghaa.PA
