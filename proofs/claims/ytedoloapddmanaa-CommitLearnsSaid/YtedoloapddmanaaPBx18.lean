-- Written by a program of this session (wip/tools) over the kit's print.
import Derived.Test.YtedoloapddmanaaPBx0
import Derived.Test.YtedoloapddmanaaSh
import Derived.Test.YtedoloapddmanaaPBx17
namespace Go.Proofs.Ytedoloapddmanaa.PB
open Go.RowKit Go.Proofs.YtedoloapddmanaaW.PrintWords Go.Proofs.YtedoloapddmanaaW.PrintLast Go.Proofs.YtedoloapddmanaaW.PrintMore
attribute [local go_sem] max2_int min2_int max_two min_two max_three min_three max_four min_four   -- for this text's walks alone
set_option linter.unusedVariables false
set_option linter.unusedSimpArgs false
def standbyref26_SameMessages.l0 : Nat → List (S53) → List (S53) → Int → Option (Bool)
  | 0, _, _, _ => none
  | k + 1, x0, x1, x5 => if x5 < (x0.length : Int) then (if 0 ≤ x5 then (if x5 < (x1.length : Int) then ((standbyref26_SameMessage.f k ((rd_T53 x0 x5).f0) ((rd_T53 x0 x5).f1) ((rd_T53 x0 x5).f2) ((rd_T53 x0 x5).f3) ((rd_T53 x0 x5).f4) ((rd_T53 x0 x5).f5) ((rd_T53 x0 x5).f6) ((rd_T53 x0 x5).f7) ((rd_T53 x1 x5).f0) ((rd_T53 x1 x5).f1) ((rd_T53 x1 x5).f2) ((rd_T53 x1 x5).f3) ((rd_T53 x1 x5).f4) ((rd_T53 x1 x5).f5) ((rd_T53 x1 x5).f6) ((rd_T53 x1 x5).f7)).bind fun t341 => (if t341 = true then (standbyref26_SameMessages.l0 k x0 x1 (wrap64 (x5 + 1))) else (some false))) else (none)) else (none)) else (some true)
def standbyref26_SameMessages.f (k : Nat) (l0 : List (S53)) (l1 : List (S53)) : Option (Bool) := if (l0.length : Int) = (l1.length : Int) then (standbyref26_SameMessages.l0 k l0 l1 0) else (some false)
theorem standbyref26_SameMessages.mono_l : ∀ k, (∀ y0 y1 y2, LeO (standbyref26_SameMessages.l0 k y0 y1 y2) (standbyref26_SameMessages.l0 (k + 1) y0 y1 y2))
  | 0 => fun _ _ _ r h => by simp [standbyref26_SameMessages.l0] at h
  | k + 1 => by
    have ih0 := standbyref26_SameMessages.mono_l k
    · intro y0 y1 y2
      unfold standbyref26_SameMessages.l0
      repeat' first
      | (with_reducible exact ih0 _ _ _)
      | (with_reducible exact standbyref26_SameMessage.mono _ _ _ _ _ _ _ _ _ _ _ _ _ _ _ _ _)
      | (with_reducible exact LeO.refl _)
      | (with_reducible exact LeO.none _)
      | (with_reducible refine LeO.ite ?_ ?_)
      | (with_reducible refine LeO.bind ?_ (fun _ => ?_))
      | exact ih0 _ _ _
      | exact standbyref26_SameMessage.mono _ _ _ _ _ _ _ _ _ _ _ _ _ _ _ _ _
      | exact LeO.none _
      | refine LeO.ite ?_ ?_
      | refine LeO.bind ?_ (fun _ => ?_)
theorem standbyref26_SameMessages.mono : ∀ a0 a1 k, LeO (standbyref26_SameMessages.f k a0 a1) (standbyref26_SameMessages.f (k + 1) a0 a1) := by
  intro a0 a1 k
  have ih0 := standbyref26_SameMessages.mono_l k
  unfold standbyref26_SameMessages.f
  repeat' first
      | (with_reducible exact ih0 _ _ _)
      | (with_reducible exact standbyref26_SameMessage.mono _ _ _ _ _ _ _ _ _ _ _ _ _ _ _ _ _)
      | (with_reducible exact LeO.refl _)
      | (with_reducible exact LeO.none _)
      | (with_reducible refine LeO.ite ?_ ?_)
      | (with_reducible refine LeO.bind ?_ (fun _ => ?_))
      | exact ih0 _ _ _
      | exact standbyref26_SameMessage.mono _ _ _ _ _ _ _ _ _ _ _ _ _ _ _ _ _
      | exact LeO.none _
      | refine LeO.ite ?_ ?_
      | refine LeO.bind ?_ (fun _ => ?_)
def standbyref26_SameMessages.T6 : Bool × List (List Nat × List Nat) := (true, [([], []), ([], []), ([0, 1], [0, 1]), ([2], [2]), ([], []), ([], []), ([4, 5], [4, 5]), ([6], [6]), ([3, 7], [3, 7]), ([8], [8])])
def standbyref26_SameMessages.B6 : List Nat := [0, 0, 3, 7, 0, 0, 48, 112, 255, 511]
theorem standbyref26_SameMessages.tab6 : rtab .any (opsOf Try.f24 6) = standbyref26_SameMessages.T6 := by kernel_rfl
theorem standbyref26_SameMessages.bits6 : waitsOk standbyref26_SameMessages.T6.2 standbyref26_SameMessages.B6 = true := by kernel_rfl
set_option maxHeartbeats 8000000 in
set_option maxRecDepth 100000 in
theorem standbyref26_SameMessages.calls (k : Nat) (A0 : Option Addr) (c0 : Nat) (l0 : List (S53)) (A1 : Option Addr) (c1 : Nat) (l1 : List (S53)) (r : Bool) (w : World) (hr0 : Kd.C k53 w A0 l0.length l0) (hc0 : l0.length ≤ c0) (hr1 : Kd.C k53 w A1 l1.length l1) (hc1 : l1.length ≤ c1) (h : standbyref26_SameMessages.f k l0 l1 = some r) :
    Calls Try.prog 24 #[.slice A0 l0.length c0, .slice A1 l1.length c1] w fun e w' => e = .returned (.bool r) ∧ Below w.heap.size w w' := by
  have hu53 := Try.underlying53
  have HR0 := Aside0.mk hr0
  have HC0 := Aside0.mk hc0
  clear hr0 hc0
  have HR1 := Aside0.mk hr1
  have HC1 := Aside0.mk hc1
  clear hr1 hc1
  have HB := Aside0.mk (Below.refl w.heap.size w)
  have H : (if (l0.length : Int) = (l1.length : Int) then (standbyref26_SameMessages.l0 k l0 l1 0) else (some false)) = some r := h
  clear h
  by_cases c3 : (l0.length : Int) = (l1.length : Int)
  · rw [if_pos c3] at H
    have c3b0 : ((l0.length : Int) == (l1.length : Int)) = true := beq_iff_eq.mpr c3
    have c3b1 : ((l0.length : Int) != (l1.length : Int)) = false := bne_eq_false_iff_eq.mpr c3
    have c3b2 : (l0.length == l1.length) = true := by first | simpa using c3 | (simp at c3 ⊢; omega)
    clear c3
    have H' := Aside0.mk H
    clear H
    go_enter Try.func24, Try.ntmps24
    go_wp2
    go_loopg [5] k (fun kq v5 w' => ∃ (x5_1 : Int), v5 = .int .i64 x5_1 ∧ Aside0 (standbyref26_SameMessages.l0 kq l0 l1 x5_1 = some r) ∧ Aside0 (kq ≤ k) ∧ Aside0 (Below w.heap.size w w'))
    case atStart => exact ⟨(0), (by first | rfl | (simp; done) | (simp [*]; done)), H', ⟨Nat.le_refl _⟩, ⟨kB HB.out⟩⟩
    case round =>
      clear H'
      try clear c1
      try clear c2
      try clear p2
      try clear c3
      try clear c3b0
      try clear c3b1
      try clear c3b2
      obtain ⟨x5_1, rfl, HA, HK1, HB⟩ := hrel
      cases gk with
      | zero => exact absurd HA.out (by simp [standbyref26_SameMessages.l0])
      | succ k1 =>
        have H := HA.out
        clear HA
        simp only [standbyref26_SameMessages.l0] at H
        by_cases c4 : x5_1 < (l0.length : Int)
        · rw [if_pos c4] at H
          have c4b0 : decide (x5_1 < (l0.length : Int)) = true := decide_eq_true c4
          clear c4
          by_cases c5 : 0 ≤ x5_1
          · rw [if_pos c5] at H
            have c5b0 : decide (0 ≤ x5_1) = true := decide_eq_true c5
            clear c5
            by_cases c6 : x5_1 < (l1.length : Int)
            · rw [if_pos c6] at H
              have c6b0 : decide (x5_1 < (l1.length : Int)) = true := decide_eq_true c6
              clear c6
              replace H := Option.bind_eq_some_iff.mp H
              obtain ⟨t341, A70, H⟩ := H
              (try dsimp only at H)
              have A7 := Aside0.mk A70
              clear A70
              by_cases c8 : t341 = true
              · subst c8
                have H1 : (standbyref26_SameMessages.l0 k1 l0 l1 (wrap64 (x5_1 + 1))) = some r := by rw [if_pos rfl] at H; exact H
                clear H
                have H := H1
                clear H1
                have H' := Aside0.mk H
                clear H
                try go_wp2
                have n0_ := Aside0.mk (below_drew1 HB.out)
                clear HB
                have HB := n0_
                clear n0_
                have p339 : 0 ≤ (x5_1 : Int) := of_decide_eq_true (by first | (with_reducible assumption) | assumption)
                have q339 : x5_1 < (l0.length : Int) := of_decide_eq_true (by first | (with_reducible assumption) | assumption)
                obtain ⟨ad339, e339, hx339_0, hx339_1, hx339_2, hx339_3, hx339_4, hx339_5, hx339_6, hx339_7⟩ := at_T53 HR0.out x5_1 p339 q339
                have hw339_7 := hx339_7
                have hw339_6 := hx339_6
                have hw339_5 := hx339_5
                have hw339_4 := hx339_4
                have hw339_3 := hx339_3
                have hw339_2 := hx339_2
                have hw339_1 := hx339_1
                have hw339_0 := hx339_0
                cases e339
                replace hx339_0 := (HB.out.cell (World.block_lt_of_cell? w _ hx339_0)).trans hx339_0
                replace hx339_1 := (HB.out.cell (World.block_lt_of_cell? w _ hx339_1)).trans hx339_1
                replace hx339_2 := (HB.out.cell (World.block_lt_of_cell? w _ hx339_2)).trans hx339_2
                replace hx339_3 := (HB.out.cell (World.block_lt_of_cell? w _ hx339_3)).trans hx339_3
                replace hx339_4 := (HB.out.cell (World.block_lt_of_cell? w _ hx339_4)).trans hx339_4
                replace hx339_5 := (HB.out.cell (World.block_lt_of_cell? w _ hx339_5)).trans hx339_5
                replace hx339_6 := (HB.out.cell (World.block_lt_of_cell? w _ hx339_6)).trans hx339_6
                replace hx339_7 := (HB.out.cell (World.block_lt_of_cell? w _ hx339_7)).trans hx339_7
                replace p339 := eq_true p339
                replace q339 := eq_true q339
                have p340 : 0 ≤ (x5_1 : Int) := of_decide_eq_true (by first | (with_reducible assumption) | assumption)
                have q340 : x5_1 < (l1.length : Int) := of_decide_eq_true (by first | (with_reducible assumption) | assumption)
                obtain ⟨ad340, e340, hx340_0, hx340_1, hx340_2, hx340_3, hx340_4, hx340_5, hx340_6, hx340_7⟩ := at_T53 HR1.out x5_1 p340 q340
                have hw340_7 := hx340_7
                have hw340_6 := hx340_6
                have hw340_5 := hx340_5
                have hw340_4 := hx340_4
                have hw340_3 := hx340_3
                have hw340_2 := hx340_2
                have hw340_1 := hx340_1
                have hw340_0 := hx340_0
                cases e340
                replace hx340_0 := (HB.out.cell (World.block_lt_of_cell? w _ hx340_0)).trans hx340_0
                replace hx340_1 := (HB.out.cell (World.block_lt_of_cell? w _ hx340_1)).trans hx340_1
                replace hx340_2 := (HB.out.cell (World.block_lt_of_cell? w _ hx340_2)).trans hx340_2
                replace hx340_3 := (HB.out.cell (World.block_lt_of_cell? w _ hx340_3)).trans hx340_3
                replace hx340_4 := (HB.out.cell (World.block_lt_of_cell? w _ hx340_4)).trans hx340_4
                replace hx340_5 := (HB.out.cell (World.block_lt_of_cell? w _ hx340_5)).trans hx340_5
                replace hx340_6 := (HB.out.cell (World.block_lt_of_cell? w _ hx340_6)).trans hx340_6
                replace hx340_7 := (HB.out.cell (World.block_lt_of_cell? w _ hx340_7)).trans hx340_7
                replace p340 := eq_true p340
                replace q340 := eq_true q340
                refine start_ (n := 10) (S := fun w' => w'.cell? (ad339.add ((x5_1).toNat * 8)) = some (.int .i64 ((rd_T53 l0 x5_1).f0)) ∧ w'.cell? ⟨(ad339.add ((x5_1).toNat * 8)).block, (ad339.add ((x5_1).toNat * 8)).off + 1, none⟩ = some (.int .i64 ((rd_T53 l0 x5_1).f1)) ∧ w'.cell? ⟨(ad339.add ((x5_1).toNat * 8)).block, (ad339.add ((x5_1).toNat * 8)).off + 2, none⟩ = some (.int .i64 ((rd_T53 l0 x5_1).f2)) ∧ w'.cell? ⟨(ad339.add ((x5_1).toNat * 8)).block, (ad339.add ((x5_1).toNat * 8)).off + 3, none⟩ = some (.int .i64 ((rd_T53 l0 x5_1).f3)) ∧ w'.cell? ⟨(ad339.add ((x5_1).toNat * 8)).block, (ad339.add ((x5_1).toNat * 8)).off + 4, none⟩ = some (.int .i64 ((rd_T53 l0 x5_1).f4)) ∧ w'.cell? ⟨(ad339.add ((x5_1).toNat * 8)).block, (ad339.add ((x5_1).toNat * 8)).off + 5, none⟩ = some (.int .i64 ((rd_T53 l0 x5_1).f5)) ∧ w'.cell? ⟨(ad339.add ((x5_1).toNat * 8)).block, (ad339.add ((x5_1).toNat * 8)).off + 6, none⟩ = some (.slice none 0 0) ∧ w'.cell? ⟨(ad339.add ((x5_1).toNat * 8)).block, (ad339.add ((x5_1).toNat * 8)).off + 7, none⟩ = some (.slice none 0 0) ∧ w'.cell? (ad340.add ((x5_1).toNat * 8)) = some (.int .i64 ((rd_T53 l1 x5_1).f0)) ∧ w'.cell? ⟨(ad340.add ((x5_1).toNat * 8)).block, (ad340.add ((x5_1).toNat * 8)).off + 1, none⟩ = some (.int .i64 ((rd_T53 l1 x5_1).f1)) ∧ w'.cell? ⟨(ad340.add ((x5_1).toNat * 8)).block, (ad340.add ((x5_1).toNat * 8)).off + 2, none⟩ = some (.int .i64 ((rd_T53 l1 x5_1).f2)) ∧ w'.cell? ⟨(ad340.add ((x5_1).toNat * 8)).block, (ad340.add ((x5_1).toNat * 8)).off + 3, none⟩ = some (.int .i64 ((rd_T53 l1 x5_1).f3)) ∧ w'.cell? ⟨(ad340.add ((x5_1).toNat * 8)).block, (ad340.add ((x5_1).toNat * 8)).off + 4, none⟩ = some (.int .i64 ((rd_T53 l1 x5_1).f4)) ∧ w'.cell? ⟨(ad340.add ((x5_1).toNat * 8)).block, (ad340.add ((x5_1).toNat * 8)).off + 5, none⟩ = some (.int .i64 ((rd_T53 l1 x5_1).f5)) ∧ w'.cell? ⟨(ad340.add ((x5_1).toNat * 8)).block, (ad340.add ((x5_1).toNat * 8)).off + 6, none⟩ = some (.slice none 0 0) ∧ w'.cell? ⟨(ad340.add ((x5_1).toNat * 8)).block, (ad340.add ((x5_1).toNat * 8)).off + 7, none⟩ = some (.slice none 0 0)) (ds := []) #[false, false, false, false, false, false, false, false, false, false] (by kernel_rfl) rfl rfl ⟨((HB.out.cell (World.block_lt_of_cell? w _ hw339_0)).trans hw339_0), ((HB.out.cell (World.block_lt_of_cell? w _ hw339_1)).trans hw339_1), ((HB.out.cell (World.block_lt_of_cell? w _ hw339_2)).trans hw339_2), ((HB.out.cell (World.block_lt_of_cell? w _ hw339_3)).trans hw339_3), ((HB.out.cell (World.block_lt_of_cell? w _ hw339_4)).trans hw339_4), ((HB.out.cell (World.block_lt_of_cell? w _ hw339_5)).trans hw339_5), ((HB.out.cell (World.block_lt_of_cell? w _ hw339_6)).trans hw339_6), ((HB.out.cell (World.block_lt_of_cell? w _ hw339_7)).trans hw339_7), ((HB.out.cell (World.block_lt_of_cell? w _ hw340_0)).trans hw340_0), ((HB.out.cell (World.block_lt_of_cell? w _ hw340_1)).trans hw340_1), ((HB.out.cell (World.block_lt_of_cell? w _ hw340_2)).trans hw340_2), ((HB.out.cell (World.block_lt_of_cell? w _ hw340_3)).trans hw340_3), ((HB.out.cell (World.block_lt_of_cell? w _ hw340_4)).trans hw340_4), ((HB.out.cell (World.block_lt_of_cell? w _ hw340_5)).trans hw340_5), ((HB.out.cell (World.block_lt_of_cell? w _ hw340_6)).trans hw340_6), ((HB.out.cell (World.block_lt_of_cell? w _ hw340_7)).trans hw340_7)⟩ (fun hHeld => ?_); refine with_tabW standbyref26_SameMessages.tab6 standbyref26_SameMessages.bits6 (fun HT_ HW_ => ?_)
                generalize wr.drew = w9 at HB hx339_0 hx339_1 hx339_2 hx339_3 hx339_4 hx339_5 hx339_6 hx339_7 hx340_0 hx340_1 hx340_2 hx340_3 hx340_4 hx340_5 hx340_6 hx340_7 hHeld ⊢
                refine pure_ (i := 0) (N := some 17) (v := ?_) (a' := ?_) #[true, false, false, false, false, false, false, false, false, false] rfl rfl (any_of HT_.out (by kernel_rfl)) (fun _ _ _ h => h) (Or.inl ⟨by rfl, ?_⟩) ?_ ?_
                rotate_left
                · intro w'
                  go_simp
                  with_reducible rfl
                rotate_left
                · simp only [Act.put, List.setIfInBounds_toArray, List.set_cons_zero, List.set_cons_succ, i64_w, i32_w]
                  rfl
                refine pure_ (i := 1) (N := some 18) (v := ?_) (a' := ?_) #[true, true, false, false, false, false, false, false, false, false] rfl rfl (any_of HT_.out (by kernel_rfl)) (fun _ _ _ h => h) (Or.inl ⟨by rfl, ?_⟩) ?_ ?_
                rotate_left
                · intro w'
                  go_simp
                  with_reducible rfl
                rotate_left
                · simp only [Act.put, List.setIfInBounds_toArray, List.set_cons_zero, List.set_cons_succ, i64_w, i32_w]
                  rfl
                refine pure_ (i := 2) (N := some 19) (v := ?_) (a' := ?_) #[true, true, true, false, false, false, false, false, false, false] rfl rfl (any_of HT_.out (by kernel_rfl)) (fun _ _ _ h => h) (Or.inl ⟨by rfl, ?_⟩) ?_ ?_
                rotate_left
                · intro w'
                  go_simp
                  with_reducible rfl
                rotate_left
                · simp only [Act.put, List.setIfInBounds_toArray, List.set_cons_zero, List.set_cons_succ, i64_w, i32_w]
                  rfl
                refine pure_ (i := 4) (N := some 21) (v := ?_) (a' := ?_) #[true, true, true, false, true, false, false, false, false, false] rfl rfl (any_of HT_.out (by kernel_rfl)) (fun _ _ _ h => h) (Or.inl ⟨by rfl, ?_⟩) ?_ ?_
                rotate_left
                · intro w'
                  go_simp
                  with_reducible rfl
                rotate_left
                · simp only [Act.put, List.setIfInBounds_toArray, List.set_cons_zero, List.set_cons_succ, i64_w, i32_w]
                  rfl
                refine pure_ (i := 5) (N := some 22) (v := ?_) (a' := ?_) #[true, true, true, false, true, true, false, false, false, false] rfl rfl (any_of HT_.out (by kernel_rfl)) (fun _ _ _ h => h) (Or.inl ⟨by rfl, ?_⟩) ?_ ?_
                rotate_left
                · intro w'
                  go_simp
                  with_reducible rfl
                rotate_left
                · simp only [Act.put, List.setIfInBounds_toArray, List.set_cons_zero, List.set_cons_succ, i64_w, i32_w]
                  rfl
                refine pure_ (i := 6) (N := some 23) (v := ?_) (a' := ?_) #[true, true, true, false, true, true, true, false, false, false] rfl rfl (any_of HT_.out (by kernel_rfl)) (fun _ _ _ h => h) (Or.inl ⟨by rfl, ?_⟩) ?_ ?_
                rotate_left
                · intro w'
                  go_simp
                  with_reducible rfl
                rotate_left
                · simp only [Act.put, List.setIfInBounds_toArray, List.set_cons_zero, List.set_cons_succ, i64_w, i32_w]
                  rfl
                refine take_ (i := 3) (N := some 20) (v := ?_) (a' := ?_) #[true, true, true, true, true, true, true, false, false, false] rfl rfl (take_ofW HT_.out HW_.out (by kernel_rfl)) (fun _ _ _ h => h) (Or.inl ⟨by rfl, ?_⟩) hHeld ?_ ?_
                rotate_left
                · rintro w' ⟨s0, s1, s2, s3, s4, s5, s6, s7, s8, s9, s10, s11, s12, s13, s14, s15⟩
                  go_simp
                  with_reducible rfl
                rotate_left
                · simp only [Act.put, List.setIfInBounds_toArray, List.set_cons_zero, List.set_cons_succ, i64_w, i32_w]
                  rfl
                refine take_ (i := 7) (N := some 24) (v := ?_) (a' := ?_) #[true, true, true, true, true, true, true, true, false, false] rfl rfl (take_ofW HT_.out HW_.out (by kernel_rfl)) (fun _ _ _ h => h) (Or.inl ⟨by rfl, ?_⟩) hHeld ?_ ?_
                rotate_left
                · rintro w' ⟨s0, s1, s2, s3, s4, s5, s6, s7, s8, s9, s10, s11, s12, s13, s14, s15⟩
                  go_simp
                  with_reducible rfl
                rotate_left
                · simp only [Act.put, List.setIfInBounds_toArray, List.set_cons_zero, List.set_cons_succ, i64_w, i32_w]
                  rfl
                refine one_ (i := 8) (N := some 25) #[true, true, true, true, true, true, true, true, true, false] rfl rfl (one_of HT_.out (by kernel_rfl)) (by decide) (fun K hK => ?_)
                refine goes_ Try.func50 (by kernel_rfl) rfl #[.agg #[.int .i64 ((rd_T53 l0 x5_1).f0), .int .i64 ((rd_T53 l0 x5_1).f1), .int .i64 ((rd_T53 l0 x5_1).f2), .int .i64 ((rd_T53 l0 x5_1).f3), .int .i64 ((rd_T53 l0 x5_1).f4), .int .i64 ((rd_T53 l0 x5_1).f5), .slice none 0 0, .slice none 0 0], .agg #[.int .i64 ((rd_T53 l1 x5_1).f0), .int .i64 ((rd_T53 l1 x5_1).f1), .int .i64 ((rd_T53 l1 x5_1).f2), .int .i64 ((rd_T53 l1 x5_1).f3), .int .i64 ((rd_T53 l1 x5_1).f4), .int .i64 ((rd_T53 l1 x5_1).f5), .slice none 0 0, .slice none 0 0]] (by rfl) rfl rfl (by (try simp only [List.map_toArray, List.map_cons, List.map_nil]); first | done | rfl | (simp only [List.length_drop, List.length_take]; rfl)) ?_
                with_reducible refine (standbyref26_SameMessage.calls k1 ((rd_T53 l0 x5_1).f0) ((rd_T53 l0 x5_1).f1) ((rd_T53 l0 x5_1).f2) ((rd_T53 l0 x5_1).f3) ((rd_T53 l0 x5_1).f4) ((rd_T53 l0 x5_1).f5) ((rd_T53 l0 x5_1).f6) ((rd_T53 l0 x5_1).f7) ((rd_T53 l1 x5_1).f0) ((rd_T53 l1 x5_1).f1) ((rd_T53 l1 x5_1).f2) ((rd_T53 l1 x5_1).f3) ((rd_T53 l1 x5_1).f4) ((rd_T53 l1 x5_1).f5) ((rd_T53 l1 x5_1).f6) ((rd_T53 l1 x5_1).f7) true _ A7.out).mono ?_
                rintro e w10 ⟨rfl, hb⟩
                refine ⟨_, rfl, ?_⟩
                have n0_ := tB HB hb
                clear HB
                have HB := n0_
                clear n0_
                (try clear hb)
                (try clear hb2)
                (try clear hk)
                (try clear hi)
                refine hK.out _ _ ⟨((HB.out.cell (World.block_lt_of_cell? w _ hw339_0)).trans hw339_0), ((HB.out.cell (World.block_lt_of_cell? w _ hw339_1)).trans hw339_1), ((HB.out.cell (World.block_lt_of_cell? w _ hw339_2)).trans hw339_2), ((HB.out.cell (World.block_lt_of_cell? w _ hw339_3)).trans hw339_3), ((HB.out.cell (World.block_lt_of_cell? w _ hw339_4)).trans hw339_4), ((HB.out.cell (World.block_lt_of_cell? w _ hw339_5)).trans hw339_5), ((HB.out.cell (World.block_lt_of_cell? w _ hw339_6)).trans hw339_6), ((HB.out.cell (World.block_lt_of_cell? w _ hw339_7)).trans hw339_7), ((HB.out.cell (World.block_lt_of_cell? w _ hw340_0)).trans hw340_0), ((HB.out.cell (World.block_lt_of_cell? w _ hw340_1)).trans hw340_1), ((HB.out.cell (World.block_lt_of_cell? w _ hw340_2)).trans hw340_2), ((HB.out.cell (World.block_lt_of_cell? w _ hw340_3)).trans hw340_3), ((HB.out.cell (World.block_lt_of_cell? w _ hw340_4)).trans hw340_4), ((HB.out.cell (World.block_lt_of_cell? w _ hw340_5)).trans hw340_5), ((HB.out.cell (World.block_lt_of_cell? w _ hw340_6)).trans hw340_6), ((HB.out.cell (World.block_lt_of_cell? w _ hw340_7)).trans hw340_7)⟩ (fun hHeld => ?_)
                clear hK K
                refine norm_ (a' := ?_) ?_ ?_
                rotate_left
                · show Act.put _ (some 25) _ = _
                  simp only [Act.put, List.setIfInBounds_toArray, List.set_cons_zero, List.set_cons_succ, i64_w, i32_w]
                  rfl
                refine pure_ (i := 9) (N := some 26) (v := ?_) (a' := ?_) #[true, true, true, true, true, true, true, true, true, true] rfl rfl (any_of HT_.out (by kernel_rfl)) (fun _ _ _ h => h) (Or.inl ⟨by rfl, ?_⟩) ?_ ?_
                rotate_left
                · intro w'
                  go_simp
                  with_reducible rfl
                rotate_left
                · simp only [Act.put, List.setIfInBounds_toArray, List.set_cons_zero, List.set_cons_succ, i64_w, i32_w]
                  rfl
                refine done_ (done_of HT_.out (by kernel_rfl)) ?_
                try go_wp2
                go_roundg k1
                case measure => have := HK1.out; omega
                case rel => exact ⟨(wrap64 (x5_1 + 1)), (by first | rfl | (simp; done) | (simp [*]; done)), H', ⟨by have := HK1.out; omega⟩, ⟨kB HB.out⟩⟩
              · replace c8 := Bool.eq_false_iff.mpr c8
                subst c8
                have H1 : (some false) = some r := by rw [if_neg (show ¬ (false = true) by decide)] at H; exact H
                clear H
                have H := H1
                clear H1
                obtain rfl := Option.some.inj H
                try go_wp2
                have n0_ := Aside0.mk (below_drew1 HB.out)
                clear HB
                have HB := n0_
                clear n0_
                have p339 : 0 ≤ (x5_1 : Int) := of_decide_eq_true (by first | (with_reducible assumption) | assumption)
                have q339 : x5_1 < (l0.length : Int) := of_decide_eq_true (by first | (with_reducible assumption) | assumption)
                obtain ⟨ad339, e339, hx339_0, hx339_1, hx339_2, hx339_3, hx339_4, hx339_5, hx339_6, hx339_7⟩ := at_T53 HR0.out x5_1 p339 q339
                have hw339_7 := hx339_7
                have hw339_6 := hx339_6
                have hw339_5 := hx339_5
                have hw339_4 := hx339_4
                have hw339_3 := hx339_3
                have hw339_2 := hx339_2
                have hw339_1 := hx339_1
                have hw339_0 := hx339_0
                cases e339
                replace hx339_0 := (HB.out.cell (World.block_lt_of_cell? w _ hx339_0)).trans hx339_0
                replace hx339_1 := (HB.out.cell (World.block_lt_of_cell? w _ hx339_1)).trans hx339_1
                replace hx339_2 := (HB.out.cell (World.block_lt_of_cell? w _ hx339_2)).trans hx339_2
                replace hx339_3 := (HB.out.cell (World.block_lt_of_cell? w _ hx339_3)).trans hx339_3
                replace hx339_4 := (HB.out.cell (World.block_lt_of_cell? w _ hx339_4)).trans hx339_4
                replace hx339_5 := (HB.out.cell (World.block_lt_of_cell? w _ hx339_5)).trans hx339_5
                replace hx339_6 := (HB.out.cell (World.block_lt_of_cell? w _ hx339_6)).trans hx339_6
                replace hx339_7 := (HB.out.cell (World.block_lt_of_cell? w _ hx339_7)).trans hx339_7
                replace p339 := eq_true p339
                replace q339 := eq_true q339
                have p340 : 0 ≤ (x5_1 : Int) := of_decide_eq_true (by first | (with_reducible assumption) | assumption)
                have q340 : x5_1 < (l1.length : Int) := of_decide_eq_true (by first | (with_reducible assumption) | assumption)
                obtain ⟨ad340, e340, hx340_0, hx340_1, hx340_2, hx340_3, hx340_4, hx340_5, hx340_6, hx340_7⟩ := at_T53 HR1.out x5_1 p340 q340
                have hw340_7 := hx340_7
                have hw340_6 := hx340_6
                have hw340_5 := hx340_5
                have hw340_4 := hx340_4
                have hw340_3 := hx340_3
                have hw340_2 := hx340_2
                have hw340_1 := hx340_1
                have hw340_0 := hx340_0
                cases e340
                replace hx340_0 := (HB.out.cell (World.block_lt_of_cell? w _ hx340_0)).trans hx340_0
                replace hx340_1 := (HB.out.cell (World.block_lt_of_cell? w _ hx340_1)).trans hx340_1
                replace hx340_2 := (HB.out.cell (World.block_lt_of_cell? w _ hx340_2)).trans hx340_2
                replace hx340_3 := (HB.out.cell (World.block_lt_of_cell? w _ hx340_3)).trans hx340_3
                replace hx340_4 := (HB.out.cell (World.block_lt_of_cell? w _ hx340_4)).trans hx340_4
                replace hx340_5 := (HB.out.cell (World.block_lt_of_cell? w _ hx340_5)).trans hx340_5
                replace hx340_6 := (HB.out.cell (World.block_lt_of_cell? w _ hx340_6)).trans hx340_6
                replace hx340_7 := (HB.out.cell (World.block_lt_of_cell? w _ hx340_7)).trans hx340_7
                replace p340 := eq_true p340
                replace q340 := eq_true q340
                refine start_ (n := 10) (S := fun w' => w'.cell? (ad339.add ((x5_1).toNat * 8)) = some (.int .i64 ((rd_T53 l0 x5_1).f0)) ∧ w'.cell? ⟨(ad339.add ((x5_1).toNat * 8)).block, (ad339.add ((x5_1).toNat * 8)).off + 1, none⟩ = some (.int .i64 ((rd_T53 l0 x5_1).f1)) ∧ w'.cell? ⟨(ad339.add ((x5_1).toNat * 8)).block, (ad339.add ((x5_1).toNat * 8)).off + 2, none⟩ = some (.int .i64 ((rd_T53 l0 x5_1).f2)) ∧ w'.cell? ⟨(ad339.add ((x5_1).toNat * 8)).block, (ad339.add ((x5_1).toNat * 8)).off + 3, none⟩ = some (.int .i64 ((rd_T53 l0 x5_1).f3)) ∧ w'.cell? ⟨(ad339.add ((x5_1).toNat * 8)).block, (ad339.add ((x5_1).toNat * 8)).off + 4, none⟩ = some (.int .i64 ((rd_T53 l0 x5_1).f4)) ∧ w'.cell? ⟨(ad339.add ((x5_1).toNat * 8)).block, (ad339.add ((x5_1).toNat * 8)).off + 5, none⟩ = some (.int .i64 ((rd_T53 l0 x5_1).f5)) ∧ w'.cell? ⟨(ad339.add ((x5_1).toNat * 8)).block, (ad339.add ((x5_1).toNat * 8)).off + 6, none⟩ = some (.slice none 0 0) ∧ w'.cell? ⟨(ad339.add ((x5_1).toNat * 8)).block, (ad339.add ((x5_1).toNat * 8)).off + 7, none⟩ = some (.slice none 0 0) ∧ w'.cell? (ad340.add ((x5_1).toNat * 8)) = some (.int .i64 ((rd_T53 l1 x5_1).f0)) ∧ w'.cell? ⟨(ad340.add ((x5_1).toNat * 8)).block, (ad340.add ((x5_1).toNat * 8)).off + 1, none⟩ = some (.int .i64 ((rd_T53 l1 x5_1).f1)) ∧ w'.cell? ⟨(ad340.add ((x5_1).toNat * 8)).block, (ad340.add ((x5_1).toNat * 8)).off + 2, none⟩ = some (.int .i64 ((rd_T53 l1 x5_1).f2)) ∧ w'.cell? ⟨(ad340.add ((x5_1).toNat * 8)).block, (ad340.add ((x5_1).toNat * 8)).off + 3, none⟩ = some (.int .i64 ((rd_T53 l1 x5_1).f3)) ∧ w'.cell? ⟨(ad340.add ((x5_1).toNat * 8)).block, (ad340.add ((x5_1).toNat * 8)).off + 4, none⟩ = some (.int .i64 ((rd_T53 l1 x5_1).f4)) ∧ w'.cell? ⟨(ad340.add ((x5_1).toNat * 8)).block, (ad340.add ((x5_1).toNat * 8)).off + 5, none⟩ = some (.int .i64 ((rd_T53 l1 x5_1).f5)) ∧ w'.cell? ⟨(ad340.add ((x5_1).toNat * 8)).block, (ad340.add ((x5_1).toNat * 8)).off + 6, none⟩ = some (.slice none 0 0) ∧ w'.cell? ⟨(ad340.add ((x5_1).toNat * 8)).block, (ad340.add ((x5_1).toNat * 8)).off + 7, none⟩ = some (.slice none 0 0)) (ds := []) #[false, false, false, false, false, false, false, false, false, false] (by kernel_rfl) rfl rfl ⟨((HB.out.cell (World.block_lt_of_cell? w _ hw339_0)).trans hw339_0), ((HB.out.cell (World.block_lt_of_cell? w _ hw339_1)).trans hw339_1), ((HB.out.cell (World.block_lt_of_cell? w _ hw339_2)).trans hw339_2), ((HB.out.cell (World.block_lt_of_cell? w _ hw339_3)).trans hw339_3), ((HB.out.cell (World.block_lt_of_cell? w _ hw339_4)).trans hw339_4), ((HB.out.cell (World.block_lt_of_cell? w _ hw339_5)).trans hw339_5), ((HB.out.cell (World.block_lt_of_cell? w _ hw339_6)).trans hw339_6), ((HB.out.cell (World.block_lt_of_cell? w _ hw339_7)).trans hw339_7), ((HB.out.cell (World.block_lt_of_cell? w _ hw340_0)).trans hw340_0), ((HB.out.cell (World.block_lt_of_cell? w _ hw340_1)).trans hw340_1), ((HB.out.cell (World.block_lt_of_cell? w _ hw340_2)).trans hw340_2), ((HB.out.cell (World.block_lt_of_cell? w _ hw340_3)).trans hw340_3), ((HB.out.cell (World.block_lt_of_cell? w _ hw340_4)).trans hw340_4), ((HB.out.cell (World.block_lt_of_cell? w _ hw340_5)).trans hw340_5), ((HB.out.cell (World.block_lt_of_cell? w _ hw340_6)).trans hw340_6), ((HB.out.cell (World.block_lt_of_cell? w _ hw340_7)).trans hw340_7)⟩ (fun hHeld => ?_); refine with_tabW standbyref26_SameMessages.tab6 standbyref26_SameMessages.bits6 (fun HT_ HW_ => ?_)
                generalize wr.drew = w11 at HB hx339_0 hx339_1 hx339_2 hx339_3 hx339_4 hx339_5 hx339_6 hx339_7 hx340_0 hx340_1 hx340_2 hx340_3 hx340_4 hx340_5 hx340_6 hx340_7 hHeld ⊢
                refine pure_ (i := 0) (N := some 17) (v := ?_) (a' := ?_) #[true, false, false, false, false, false, false, false, false, false] rfl rfl (any_of HT_.out (by kernel_rfl)) (fun _ _ _ h => h) (Or.inl ⟨by rfl, ?_⟩) ?_ ?_
                rotate_left
                · intro w'
                  go_simp
                  with_reducible rfl
                rotate_left
                · simp only [Act.put, List.setIfInBounds_toArray, List.set_cons_zero, List.set_cons_succ, i64_w, i32_w]
                  rfl
                refine pure_ (i := 1) (N := some 18) (v := ?_) (a' := ?_) #[true, true, false, false, false, false, false, false, false, false] rfl rfl (any_of HT_.out (by kernel_rfl)) (fun _ _ _ h => h) (Or.inl ⟨by rfl, ?_⟩) ?_ ?_
                rotate_left
                · intro w'
                  go_simp
                  with_reducible rfl
                rotate_left
                · simp only [Act.put, List.setIfInBounds_toArray, List.set_cons_zero, List.set_cons_succ, i64_w, i32_w]
                  rfl
                refine pure_ (i := 2) (N := some 19) (v := ?_) (a' := ?_) #[true, true, true, false, false, false, false, false, false, false] rfl rfl (any_of HT_.out (by kernel_rfl)) (fun _ _ _ h => h) (Or.inl ⟨by rfl, ?_⟩) ?_ ?_
                rotate_left
                · intro w'
                  go_simp
                  with_reducible rfl
                rotate_left
                · simp only [Act.put, List.setIfInBounds_toArray, List.set_cons_zero, List.set_cons_succ, i64_w, i32_w]
                  rfl
                refine pure_ (i := 4) (N := some 21) (v := ?_) (a' := ?_) #[true, true, true, false, true, false, false, false, false, false] rfl rfl (any_of HT_.out (by kernel_rfl)) (fun _ _ _ h => h) (Or.inl ⟨by rfl, ?_⟩) ?_ ?_
                rotate_left
                · intro w'
                  go_simp
                  with_reducible rfl
                rotate_left
                · simp only [Act.put, List.setIfInBounds_toArray, List.set_cons_zero, List.set_cons_succ, i64_w, i32_w]
                  rfl
                refine pure_ (i := 5) (N := some 22) (v := ?_) (a' := ?_) #[true, true, true, false, true, true, false, false, false, false] rfl rfl (any_of HT_.out (by kernel_rfl)) (fun _ _ _ h => h) (Or.inl ⟨by rfl, ?_⟩) ?_ ?_
                rotate_left
                · intro w'
                  go_simp
                  with_reducible rfl
                rotate_left
                · simp only [Act.put, List.setIfInBounds_toArray, List.set_cons_zero, List.set_cons_succ, i64_w, i32_w]
                  rfl
                refine pure_ (i := 6) (N := some 23) (v := ?_) (a' := ?_) #[true, true, true, false, true, true, true, false, false, false] rfl rfl (any_of HT_.out (by kernel_rfl)) (fun _ _ _ h => h) (Or.inl ⟨by rfl, ?_⟩) ?_ ?_
                rotate_left
                · intro w'
                  go_simp
                  with_reducible rfl
                rotate_left
                · simp only [Act.put, List.setIfInBounds_toArray, List.set_cons_zero, List.set_cons_succ, i64_w, i32_w]
                  rfl
                refine take_ (i := 3) (N := some 20) (v := ?_) (a' := ?_) #[true, true, true, true, true, true, true, false, false, false] rfl rfl (take_ofW HT_.out HW_.out (by kernel_rfl)) (fun _ _ _ h => h) (Or.inl ⟨by rfl, ?_⟩) hHeld ?_ ?_
                rotate_left
                · rintro w' ⟨s0, s1, s2, s3, s4, s5, s6, s7, s8, s9, s10, s11, s12, s13, s14, s15⟩
                  go_simp
                  with_reducible rfl
                rotate_left
                · simp only [Act.put, List.setIfInBounds_toArray, List.set_cons_zero, List.set_cons_succ, i64_w, i32_w]
                  rfl
                refine take_ (i := 7) (N := some 24) (v := ?_) (a' := ?_) #[true, true, true, true, true, true, true, true, false, false] rfl rfl (take_ofW HT_.out HW_.out (by kernel_rfl)) (fun _ _ _ h => h) (Or.inl ⟨by rfl, ?_⟩) hHeld ?_ ?_
                rotate_left
                · rintro w' ⟨s0, s1, s2, s3, s4, s5, s6, s7, s8, s9, s10, s11, s12, s13, s14, s15⟩
                  go_simp
                  with_reducible rfl
                rotate_left
                · simp only [Act.put, List.setIfInBounds_toArray, List.set_cons_zero, List.set_cons_succ, i64_w, i32_w]
                  rfl
                refine one_ (i := 8) (N := some 25) #[true, true, true, true, true, true, true, true, true, false] rfl rfl (one_of HT_.out (by kernel_rfl)) (by decide) (fun K hK => ?_)
                refine goes_ Try.func50 (by kernel_rfl) rfl #[.agg #[.int .i64 ((rd_T53 l0 x5_1).f0), .int .i64 ((rd_T53 l0 x5_1).f1), .int .i64 ((rd_T53 l0 x5_1).f2), .int .i64 ((rd_T53 l0 x5_1).f3), .int .i64 ((rd_T53 l0 x5_1).f4), .int .i64 ((rd_T53 l0 x5_1).f5), .slice none 0 0, .slice none 0 0], .agg #[.int .i64 ((rd_T53 l1 x5_1).f0), .int .i64 ((rd_T53 l1 x5_1).f1), .int .i64 ((rd_T53 l1 x5_1).f2), .int .i64 ((rd_T53 l1 x5_1).f3), .int .i64 ((rd_T53 l1 x5_1).f4), .int .i64 ((rd_T53 l1 x5_1).f5), .slice none 0 0, .slice none 0 0]] (by rfl) rfl rfl (by (try simp only [List.map_toArray, List.map_cons, List.map_nil]); first | done | rfl | (simp only [List.length_drop, List.length_take]; rfl)) ?_
                with_reducible refine (standbyref26_SameMessage.calls k1 ((rd_T53 l0 x5_1).f0) ((rd_T53 l0 x5_1).f1) ((rd_T53 l0 x5_1).f2) ((rd_T53 l0 x5_1).f3) ((rd_T53 l0 x5_1).f4) ((rd_T53 l0 x5_1).f5) ((rd_T53 l0 x5_1).f6) ((rd_T53 l0 x5_1).f7) ((rd_T53 l1 x5_1).f0) ((rd_T53 l1 x5_1).f1) ((rd_T53 l1 x5_1).f2) ((rd_T53 l1 x5_1).f3) ((rd_T53 l1 x5_1).f4) ((rd_T53 l1 x5_1).f5) ((rd_T53 l1 x5_1).f6) ((rd_T53 l1 x5_1).f7) false _ A7.out).mono ?_
                rintro e w12 ⟨rfl, hb⟩
                refine ⟨_, rfl, ?_⟩
                have n0_ := tB HB hb
                clear HB
                have HB := n0_
                clear n0_
                (try clear hb)
                (try clear hb2)
                (try clear hk)
                (try clear hi)
                refine hK.out _ _ ⟨((HB.out.cell (World.block_lt_of_cell? w _ hw339_0)).trans hw339_0), ((HB.out.cell (World.block_lt_of_cell? w _ hw339_1)).trans hw339_1), ((HB.out.cell (World.block_lt_of_cell? w _ hw339_2)).trans hw339_2), ((HB.out.cell (World.block_lt_of_cell? w _ hw339_3)).trans hw339_3), ((HB.out.cell (World.block_lt_of_cell? w _ hw339_4)).trans hw339_4), ((HB.out.cell (World.block_lt_of_cell? w _ hw339_5)).trans hw339_5), ((HB.out.cell (World.block_lt_of_cell? w _ hw339_6)).trans hw339_6), ((HB.out.cell (World.block_lt_of_cell? w _ hw339_7)).trans hw339_7), ((HB.out.cell (World.block_lt_of_cell? w _ hw340_0)).trans hw340_0), ((HB.out.cell (World.block_lt_of_cell? w _ hw340_1)).trans hw340_1), ((HB.out.cell (World.block_lt_of_cell? w _ hw340_2)).trans hw340_2), ((HB.out.cell (World.block_lt_of_cell? w _ hw340_3)).trans hw340_3), ((HB.out.cell (World.block_lt_of_cell? w _ hw340_4)).trans hw340_4), ((HB.out.cell (World.block_lt_of_cell? w _ hw340_5)).trans hw340_5), ((HB.out.cell (World.block_lt_of_cell? w _ hw340_6)).trans hw340_6), ((HB.out.cell (World.block_lt_of_cell? w _ hw340_7)).trans hw340_7)⟩ (fun hHeld => ?_)
                clear hK K
                refine norm_ (a' := ?_) ?_ ?_
                rotate_left
                · show Act.put _ (some 25) _ = _
                  simp only [Act.put, List.setIfInBounds_toArray, List.set_cons_zero, List.set_cons_succ, i64_w, i32_w]
                  rfl
                refine pure_ (i := 9) (N := some 26) (v := ?_) (a' := ?_) #[true, true, true, true, true, true, true, true, true, true] rfl rfl (any_of HT_.out (by kernel_rfl)) (fun _ _ _ h => h) (Or.inl ⟨by rfl, ?_⟩) ?_ ?_
                rotate_left
                · intro w'
                  go_simp
                  with_reducible rfl
                rotate_left
                · simp only [Act.put, List.setIfInBounds_toArray, List.set_cons_zero, List.set_cons_succ, i64_w, i32_w]
                  rfl
                refine done_ (done_of HT_.out (by kernel_rfl)) ?_
                try go_wp2
                go_ret
                exact ⟨by first | rfl | (simp [errW_none, errW_some] <;> rfl) | (simp [*, errW_none, errW_some] <;> rfl), (kB HB.out)⟩
            · rw [if_neg c6] at H
              exact absurd H (by simp)
          · rw [if_neg c5] at H
            exact absurd H (by simp)
        · rw [if_neg c4] at H
          have c4b0 : decide (x5_1 < (l0.length : Int)) = false := decide_eq_false c4
          clear c4
          obtain rfl := Option.some.inj H
          go_wp2
          go_ret
          exact ⟨by first | rfl | (simp [errW_none, errW_some] <;> rfl) | (simp [*, errW_none, errW_some] <;> rfl), (kB HB.out)⟩
  · rw [if_neg c3] at H
    have c3b0 : ((l0.length : Int) == (l1.length : Int)) = false := beq_eq_false_iff_ne.mpr c3
    have c3b1 : ((l0.length : Int) != (l1.length : Int)) = true := bne_iff_ne.mpr c3
    have c3b2 : (l0.length == l1.length) = false := by first | simpa using c3 | (simp at c3 ⊢; omega)
    obtain rfl := Option.some.inj H
    go_enter Try.func24, Try.ntmps24
    go_wp2
    go_ret
    exact ⟨by first | rfl | (simp [errW_none, errW_some] <;> rfl) | (simp [*, errW_none, errW_some] <;> rfl), (kB HB.out)⟩
end Go.Proofs.Ytedoloapddmanaa.PB
