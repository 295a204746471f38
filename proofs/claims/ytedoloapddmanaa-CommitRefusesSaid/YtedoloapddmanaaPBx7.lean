-- Written by a program of this session (wip/tools) over the kit's print.
import Derived.Test.YtedoloapddmanaaPBx0
import Derived.Test.YtedoloapddmanaaSh
import Derived.Test.YtedoloapddmanaaPBx2
import Derived.Test.YtedoloapddmanaaPBx3
import Derived.Test.YtedoloapddmanaaPBx5
import Derived.Test.YtedoloapddmanaaPBx6
namespace Go.Proofs.Ytedoloapddmanaa.PB
open Go.RowKit Go.Proofs.YtedoloapddmanaaW.PrintWords Go.Proofs.YtedoloapddmanaaW.PrintLast Go.Proofs.YtedoloapddmanaaW.PrintMore
attribute [local go_sem] max2_int min2_int max_two min_two max_three min_three max_four min_four   -- for this text's walks alone
set_option linter.unusedVariables false
set_option linter.unusedSimpArgs false
set_option maxHeartbeats 16000000 in
set_option maxRecDepth 100000 in
theorem learn_new (k : Nat) (e s st ap : Int) (A : Option Addr) (c : Nat) (l : List Int) (m0 m1 m2 m3 m4 m5 : Int) (q6 q7 : Value) (w : World) (hr : Kd.C (Kd.int .i64) w A l.length l) (hc : l.length ≤ c) (h : commit_CheckSource.f k e s l st ap = some 0) (h1 : m1 = s) (h2 : ¬ m5 < e) (ht : commit_time.f m5 = some true) (hlb : l.length ≤ 1000000) (hk : m0 = 9 ∨ m0 = 11 ∨ m0 = 12) (h3 : e < m5) :
    Calls Try.prog 29 #[.agg #[.int .i64 e, .int .i64 s, .slice A l.length c, .int .i64 st, .int .i64 ap], .agg #[.int .i64 m0, .int .i64 m1, .int .i64 m2, .int .i64 m3, .int .i64 m4, .int .i64 m5, q6, q7]] w fun e' w' => ∃ v2_ v5_ : Value, e' = .returned (.tuple #[.agg #[.int .i64 m5, .int .i64 s, v2_, .int .i64 ap, .int .i64 ap], v5_]) ∧ Kd.Q (Kd.int .i64) 3 w' w.heap.size (fun _ => True) v2_ ([] : List Int) ∧ Kd.R k53 53 w' w.heap.size (fun _ => True) v5_ ([] : List S53) ∧ Below w.heap.size w w' := by
  have hu79 := Try.underlying79
  have hu24 := Try.underlying24
  have hu53 := Try.underlying53
  have HR := Aside0.mk hr
  have HC := Aside0.mk hc
  clear hr hc
  have hn1 : (m1 != s) = false := by rw [h1]; exact bne_self_eq_false s
  have hn2 : decide (m5 < e) = false := decide_eq_false h2
  have H := Aside0.mk h
  clear h
  have H1 := Aside0.mk h1
  clear h1
  have H2 := Aside0.mk h2
  clear h2
  have HT := Aside0.mk ht
  clear ht
  have HLB := Aside0.mk hlb
  clear hlb
  have hgt : decide (e < m5) = true := decide_eq_true h3
  have HK := Aside0.mk hk
  clear hk
  have H3 := Aside0.mk h3
  clear h3
  have hgz : w.heap.size ≤ w.heap.size + 1 + 1 := by omega
  go_enter Try.func29, Try.ntmps29
  go_wp2_with fail
  have hW := three_alloc w #[.int .i64 e, .int .i64 s, .slice A l.length c, .int .i64 st, .int .i64 ap] #[.int .i64 m0, .int .i64 m1, .int .i64 m2, .int .i64 m3, .int .i64 m4, .int .i64 m5, q6, q7] #[.int .i64 0, .int .i64 0, .slice none 0 0, .int .i64 0, .int .i64 0]
  generalize ((w.alloc (.cells #[.int .i64 e, .int .i64 s, .slice A l.length c, .int .i64 st, .int .i64 ap] 24)).alloc (.cells #[.int .i64 m0, .int .i64 m1, .int .i64 m2, .int .i64 m3, .int .i64 m4, .int .i64 m5, q6, q7] 53)).alloc (.cells #[.int .i64 0, .int .i64 0, .slice none 0 0, .int .i64 0, .int .i64 0] 24) = W at hW ⊢
  refine (commit_CheckSource.calls k e s A c l st ap 0 W (Kd.C_below HR.out hW.2.2.2) HC.out H.out).mono ?_
  rintro e' w1 ⟨rfl, hb⟩
  have HX1 := Aside0.mk (blk_below hW.1 hb)
  have HM1 := Aside0.mk (blk_below hW.2.1 hb)
  have HZ1 := Aside0.mk (blk_below hW.2.2.1 hb)
  have HB1 := Aside0.mk (below_then hW.2.2.2 hW.2.2.2.size hb)
  clear hb hW
  have hx := HX1.out
  have hcx0 := (blk_cell hx 0).trans rfl
  have hcx1 := (blk_cell hx 1).trans rfl
  have hcx2 := (blk_cell hx 2).trans rfl
  have hcx3 := (blk_cell hx 3).trans rfl
  have hcx4 := (blk_cell hx 4).trans rfl
  have hfx0 := blk_frozen hx 0
  have hfx1 := blk_frozen hx 1
  have hfx2 := blk_frozen hx 2
  have hfx3 := blk_frozen hx 3
  have hfx4 := blk_frozen hx 4
  clear hx
  have hm := HM1.out
  have hcm0 := (blk_cell hm 0).trans rfl
  have hcm1 := (blk_cell hm 1).trans rfl
  have hcm2 := (blk_cell hm 2).trans rfl
  have hcm3 := (blk_cell hm 3).trans rfl
  have hcm4 := (blk_cell hm 4).trans rfl
  have hcm5 := (blk_cell hm 5).trans rfl
  clear hm
  have hz := HZ1.out
  have hcz0 := (blk_cell hz 0).trans rfl
  have hcz1 := (blk_cell hz 1).trans rfl
  have hcz2 := (blk_cell hz 2).trans rfl
  have hcz3 := (blk_cell hz 3).trans rfl
  have hcz4 := (blk_cell hz 4).trans rfl
  have hfz0 := blk_frozen hz 0
  have hfz1 := blk_frozen hz 1
  have hfz2 := blk_frozen hz 2
  have hfz3 := blk_frozen hz 3
  have hfz4 := blk_frozen hz 4
  clear hz
  go_wp2_with fail
  refine (commit_time.calls m5 true _ HT.out).mono ?_
  rintro e' w2 ⟨rfl, hd⟩
  clear hcx0 hfx0 hcx1 hfx1 hcx2 hfx2 hcx3 hfx3 hcx4 hfx4
  clear hcm0 hcm1 hcm2 hcm3 hcm4 hcm5
  clear hcz0 hfz0 hcz1 hfz1 hcz2 hfz2 hcz3 hfz3 hcz4 hfz4
  have HX2 := Aside0.mk (blk_below HX1.out hd.below)
  have HM2 := Aside0.mk (blk_below HM1.out hd.below)
  have HZ2 := Aside0.mk (blk_below HZ1.out hd.below)
  have HB2 := Aside0.mk (below_then HB1.out HB1.out.size hd.below)
  clear HX1 HM1 HZ1 HB1
  clear hd
  have hx := HX2.out
  have hcx0 := (blk_cell hx 0).trans rfl
  have hcx1 := (blk_cell hx 1).trans rfl
  have hcx2 := (blk_cell hx 2).trans rfl
  have hcx3 := (blk_cell hx 3).trans rfl
  have hcx4 := (blk_cell hx 4).trans rfl
  have hfx0 := blk_frozen hx 0
  have hfx1 := blk_frozen hx 1
  have hfx2 := blk_frozen hx 2
  have hfx3 := blk_frozen hx 3
  have hfx4 := blk_frozen hx 4
  clear hx
  have hm := HM2.out
  have hcm0 := (blk_cell hm 0).trans rfl
  have hcm1 := (blk_cell hm 1).trans rfl
  have hcm2 := (blk_cell hm 2).trans rfl
  have hcm3 := (blk_cell hm 3).trans rfl
  have hcm4 := (blk_cell hm 4).trans rfl
  have hcm5 := (blk_cell hm 5).trans rfl
  clear hm
  have hz := HZ2.out
  have hcz0 := (blk_cell hz 0).trans rfl
  have hcz1 := (blk_cell hz 1).trans rfl
  have hcz2 := (blk_cell hz 2).trans rfl
  have hcz3 := (blk_cell hz 3).trans rfl
  have hcz4 := (blk_cell hz 4).trans rfl
  have hfz0 := blk_frozen hz 0
  have hfz1 := blk_frozen hz 1
  have hfz2 := blk_frozen hz 2
  have hfz3 := blk_frozen hz 3
  have hfz4 := blk_frozen hz 4
  clear hz
  go_wp2_with fail
  have HC2 := Aside0.mk (Kd.C_below HR.out HB2.out)
  refine (commit_begin_calls e s st ap _ c l w2 HC2.out HC.out HLB.out).mono ?_
  rintro e' w3 ⟨g, v, rfl, hI, hR, hg, hb⟩
  obtain ⟨A3, c3, rfl⟩ := Kd.R_slice hR
  have HI3 := Aside0.mk hI
  have HQ3 := Aside0.mk (Kd.R_lower hR HB2.out.size)
  have HG := Aside0.mk (Nat.le_trans HB2.out.size hg)
  clear hcx0 hfx0 hcx1 hfx1 hcx2 hfx2 hcx3 hfx3 hcx4 hfx4
  clear hcm0 hcm1 hcm2 hcm3 hcm4 hcm5
  clear hcz0 hfz0 hcz1 hfz1 hcz2 hfz2 hcz3 hfz3 hcz4 hfz4
  have HX3 := Aside0.mk (blk_below HX2.out hb)
  have HM3 := Aside0.mk (blk_below HM2.out hb)
  have HZ3 := Aside0.mk (blk_below HZ2.out hb)
  have HB3 := Aside0.mk (below_then HB2.out HB2.out.size hb)
  clear HX2 HM2 HZ2 HB2
  clear hI hR hg hb HC2 HC HR
  obtain ⟨hc0, hc1, hc2, hc3, hc4, hc5, hf0, hf1, hf2, hf3, hf4, hf5⟩ := HI3.out.cells
  have hm := HM3.out
  have hcm0 := (blk_cell hm 0).trans rfl
  have hcm1 := (blk_cell hm 1).trans rfl
  have hcm2 := (blk_cell hm 2).trans rfl
  have hcm3 := (blk_cell hm 3).trans rfl
  have hcm4 := (blk_cell hm 4).trans rfl
  have hcm5 := (blk_cell hm 5).trans rfl
  clear hm
  have hmk := @run_makeMap Try.prog
  obtain ⟨f51, hf51⟩ : ∃ v : Value, v = .func (.func 51) #[.pointer (some ⟨g, 0, none⟩)] #[] := ⟨_, rfl⟩
  obtain ⟨f52, hf52⟩ : ∃ v : Value, v = .func (.func 52) #[.pointer (some ⟨g, 0, none⟩)] #[] := ⟨_, rfl⟩
  obtain ⟨f53, hf53⟩ : ∃ v : Value, v = .func (.func 53) #[.pointer (some ⟨g, 0, none⟩)] #[] := ⟨_, rfl⟩
  have HF51 := Aside0.mk hf51
  have HF52 := Aside0.mk hf52
  have HF53 := Aside0.mk hf53
  clear hf51 hf52 hf53
  go_wp2_with (first | (refine wpList_insert_at _ rfl (.tmp 36) (.const (.int .i64 9)) (.tmp 38) 86 rfl Try.underlying86 Try.underlying3 w3.heap.size #[] 0 9 f51 rfl rfl (by rw [HF51.out]; rfl) (MapKept.heap_alloc _ _).1 rfl ?_; intro w4 hp4 hg4; have HP4 := Aside0.mk hp4; have HG4 := Aside0.mk hg4; clear hp4 hg4) | (refine wpList_insert_at _ rfl (.tmp 36) (.const (.int .i64 11)) (.tmp 40) 86 rfl Try.underlying86 Try.underlying3 w3.heap.size #[⟨.int .i64 9, f51, 0⟩] 1 11 f52 rfl rfl (by rw [HF52.out]; rfl) HP4.out rfl ?_; intro w5 hp5 hg5; have HP5 := Aside0.mk hp5; have HG5 := Aside0.mk (HG4.out.trans hg5); clear hp5 hg5 HP4 HG4) | (refine wpList_insert_at _ rfl (.tmp 36) (.const (.int .i64 12)) (.tmp 42) 86 rfl Try.underlying86 Try.underlying3 w3.heap.size #[⟨.int .i64 9, f51, 0⟩, ⟨.int .i64 11, f52, 1⟩] 2 12 f53 rfl rfl (by rw [HF53.out]; rfl) HP5.out rfl ?_; intro w6 hp6 hg6; have hb6 := map_below (HG5.out.trans hg6); clear hc0 hc1 hc2 hc3 hc4 hc5 hf0 hf1 hf2 hf3 hf4 hf5; clear hcm0 hcm1 hcm2 hcm3 hcm4 hcm5; have HX6 := Aside0.mk (blk_below HX3.out hb6); have HM6 := Aside0.mk (blk_below HM3.out hb6); have HZ6 := Aside0.mk (blk_below HZ3.out hb6); have HB6 := Aside0.mk (below_then HB3.out HB3.out.size hb6); have HI6 := Aside0.mk (HI3.out.below hb6); have HQ6 := Aside0.mk (Kd.R_below HQ3.out hb6); clear HX3 HM3 HZ3 HB3 HI3 HQ3; have hm := HM6.out; have hcm0 := (blk_cell hm 0).trans rfl; have hcm1 := (blk_cell hm 1).trans rfl; have hcm2 := (blk_cell hm 2).trans rfl; have hcm3 := (blk_cell hm 3).trans rfl; have hcm4 := (blk_cell hm 4).trans rfl; have hcm5 := (blk_cell hm 5).trans rfl; clear hm; have hx := HX6.out; have hcx0 := (blk_cell hx 0).trans rfl; have hcx1 := (blk_cell hx 1).trans rfl; have hcx2 := (blk_cell hx 2).trans rfl; have hcx3 := (blk_cell hx 3).trans rfl; have hcx4 := (blk_cell hx 4).trans rfl; have hfx0 := blk_frozen hx 0; have hfx1 := blk_frozen hx 1; have hfx2 := blk_frozen hx 2; have hfx3 := blk_frozen hx 3; have hfx4 := blk_frozen hx 4; clear hx; obtain ⟨hc0, hc1, hc2, hc3, hc4, hc5, hf0, hf1, hf2, hf3, hf4, hf5⟩ := HI6.out.cells; have hlk := look_int (P := Try.prog) Try.underlying86 Try.underlying3 hp6 m0 _ _ (found_one f51 f52 f53 HK.out).choose_spec.choose_spec true; clear hp6 hg6 HP5 HG5 hb6))
  have HR6 := Aside0.mk (Kd.R_nil k53 53 w6 w.heap.size (fun _ => True))
  have HQ6' := Aside0.mk (Kd.Q_of_R HQ6.out)
  clear HQ6
  have HQ6 := HQ6'
  clear HQ6'
  go_wp2
  clear hc0 hc1 hc2 hc3 hc4 hc5 hf0 hf1 hf2 hf3 hf4 hf5
  refine start_ (n := 22) (S := fun w' => w'.cell? ⟨w.heap.size + 1, 5, none⟩ = some (.int .i64 m5) ∧ w'.cell? ⟨g, 4, none⟩ = some (.int .i64 ap)) (ds := [13, 17, 21]) #[false, false, false, false, false, false, false, false, false, false, false, false, false, false, false, false, false, false, false, false, false, false] (by kernel_rfl) rfl rfl ⟨hcm5, HI6.out.cells.2.2.2.2.1⟩ (fun hHeld => ?_)
  refine pure_ (i := 0) (N := some 62) (v := ?_) (a' := ?_) #[true, false, false, false, false, false, false, false, false, false, false, false, false, false, false, false, false, false, false, false, false, false] rfl rfl (by kernel_rfl) (fun _ _ _ h => h) (Or.inl ⟨by rfl, ?_⟩) ?_ ?_
  rotate_left
  · intro w'
    go_simp
    with_reducible rfl
  rotate_left
  · simp only [Act.put, List.setIfInBounds_toArray, List.set_cons_zero, List.set_cons_succ, i64_w, i32_w]
    rfl
  refine pure_ (i := 1) (N := some 63) (v := ?_) (a' := ?_) #[true, true, false, false, false, false, false, false, false, false, false, false, false, false, false, false, false, false, false, false, false, false] rfl rfl (by kernel_rfl) (fun _ _ _ h => h) (Or.inl ⟨by rfl, ?_⟩) ?_ ?_
  rotate_left
  · intro w'
    go_simp
    with_reducible rfl
  rotate_left
  · simp only [Act.put, List.setIfInBounds_toArray, List.set_cons_zero, List.set_cons_succ, i64_w, i32_w]
    rfl
  refine pure_ (i := 2) (N := some 64) (v := ?_) (a' := ?_) #[true, true, true, false, false, false, false, false, false, false, false, false, false, false, false, false, false, false, false, false, false, false] rfl rfl (by kernel_rfl) (fun _ _ _ h => h) (Or.inl ⟨by rfl, ?_⟩) ?_ ?_
  rotate_left
  · intro w'
    go_simp
    with_reducible rfl
  rotate_left
  · simp only [Act.put, List.setIfInBounds_toArray, List.set_cons_zero, List.set_cons_succ, i64_w, i32_w]
    rfl
  refine pure_ (i := 3) (N := some 65) (v := ?_) (a' := ?_) #[true, true, true, true, false, false, false, false, false, false, false, false, false, false, false, false, false, false, false, false, false, false] rfl rfl (by kernel_rfl) (fun _ _ _ h => h) (Or.inl ⟨by rfl, ?_⟩) ?_ ?_
  rotate_left
  · intro w'
    go_simp
    with_reducible rfl
  rotate_left
  · simp only [Act.put, List.setIfInBounds_toArray, List.set_cons_zero, List.set_cons_succ, i64_w, i32_w]
    rfl
  refine pure_ (i := 5) (N := some 67) (v := ?_) (a' := ?_) #[true, true, true, true, false, true, false, false, false, false, false, false, false, false, false, false, false, false, false, false, false, false] rfl rfl (by kernel_rfl) (fun _ _ _ h => h) (Or.inl ⟨by rfl, ?_⟩) ?_ ?_
  rotate_left
  · intro w'
    go_simp
    with_reducible rfl
  rotate_left
  · simp only [Act.put, List.setIfInBounds_toArray, List.set_cons_zero, List.set_cons_succ, i64_w, i32_w]
    rfl
  refine pure_ (i := 6) (N := some 68) (v := ?_) (a' := ?_) #[true, true, true, true, false, true, true, false, false, false, false, false, false, false, false, false, false, false, false, false, false, false] rfl rfl (by kernel_rfl) (fun _ _ _ h => h) (Or.inl ⟨by rfl, ?_⟩) ?_ ?_
  rotate_left
  · intro w'
    go_simp
    with_reducible rfl
  rotate_left
  · simp only [Act.put, List.setIfInBounds_toArray, List.set_cons_zero, List.set_cons_succ, i64_w, i32_w]
    rfl
  refine pure_ (i := 7) (N := some 69) (v := ?_) (a' := ?_) #[true, true, true, true, false, true, true, true, false, false, false, false, false, false, false, false, false, false, false, false, false, false] rfl rfl (by kernel_rfl) (fun _ _ _ h => h) (Or.inl ⟨by rfl, ?_⟩) ?_ ?_
  rotate_left
  · intro w'
    go_simp
    with_reducible rfl
  rotate_left
  · simp only [Act.put, List.setIfInBounds_toArray, List.set_cons_zero, List.set_cons_succ, i64_w, i32_w]
    rfl
  refine pure_ (i := 8) (N := some 70) (v := ?_) (a' := ?_) #[true, true, true, true, false, true, true, true, true, false, false, false, false, false, false, false, false, false, false, false, false, false] rfl rfl (by kernel_rfl) (fun _ _ _ h => h) (Or.inl ⟨by rfl, ?_⟩) ?_ ?_
  rotate_left
  · intro w'
    go_simp
    with_reducible rfl
  rotate_left
  · simp only [Act.put, List.setIfInBounds_toArray, List.set_cons_zero, List.set_cons_succ, i64_w, i32_w]
    rfl
  refine take_ (i := 4) (N := some 66) (v := ?_) (a' := ?_) #[true, true, true, true, true, true, true, true, true, false, false, false, false, false, false, false, false, false, false, false, false, false] rfl rfl (by kernel_rfl) (fun _ _ _ h => h) (Or.inl ⟨by rfl, ?_⟩) hHeld ?_ ?_
  rotate_left
  · rintro w' ⟨s0, s1⟩
    go_simp
    with_reducible rfl
  rotate_left
  · simp only [Act.put, List.setIfInBounds_toArray, List.set_cons_zero, List.set_cons_succ, i64_w, i32_w]
    rfl
  refine take_ (i := 9) (N := some 71) (v := ?_) (a' := ?_) #[true, true, true, true, true, true, true, true, true, true, false, false, false, false, false, false, false, false, false, false, false, false] rfl rfl (by kernel_rfl) (fun _ _ _ h => h) (Or.inl ⟨by rfl, ?_⟩) hHeld ?_ ?_
  rotate_left
  · rintro w' ⟨s0, s1⟩
    go_simp
    with_reducible rfl
  rotate_left
  · simp only [Act.put, List.setIfInBounds_toArray, List.set_cons_zero, List.set_cons_succ, i64_w, i32_w]
    rfl
  refine pure_ (i := 10) (N := some 72) (v := ?_) (a' := ?_) #[true, true, true, true, true, true, true, true, true, true, true, false, false, false, false, false, false, false, false, false, false, false] rfl rfl (by kernel_rfl) (fun _ _ _ h => h) (Or.inl ⟨by rfl, ?_⟩) ?_ ?_
  rotate_left
  · intro w'
    go_simp
    with_reducible rfl
  rotate_left
  · simp only [Act.put, List.setIfInBounds_toArray, List.set_cons_zero, List.set_cons_succ, i64_w, i32_w]
    rfl
  refine pure_ (i := 11) (N := some 73) (v := ?_) (a' := ?_) #[true, true, true, true, true, true, true, true, true, true, true, true, false, false, false, false, false, false, false, false, false, false] rfl rfl (by kernel_rfl) (fun _ _ _ h => h) (Or.inl ⟨by rfl, ?_⟩) ?_ ?_
  rotate_left
  · intro w'
    go_simp
    with_reducible rfl
  rotate_left
  · simp only [Act.put, List.setIfInBounds_toArray, List.set_cons_zero, List.set_cons_succ, i64_w, i32_w]
    rfl
  refine pure_ (i := 12) (N := some 74) (v := ?_) (a' := ?_) #[true, true, true, true, true, true, true, true, true, true, true, true, true, false, false, false, false, false, false, false, false, false] rfl rfl (by kernel_rfl) (fun _ _ _ h => h) (Or.inl ⟨by rfl, ?_⟩) ?_ ?_
  rotate_left
  · intro w'
    go_simp
    with_reducible rfl
  rotate_left
  · simp only [Act.put, List.setIfInBounds_toArray, List.set_cons_zero, List.set_cons_succ, i64_w, i32_w]
    rfl
  refine last_ (i := 13) (N := none) #[true, true, true, true, true, true, true, true, true, true, true, true, true, true, false, false, false, false, false, false, false, false] rfl rfl (by kernel_rfl) (by decide) (fun K hK => ?_)
  obtain ⟨hc0, hc1, hc2, hc3, hc4, hc5, hf0, hf1, hf2, hf3, hf4, hf5⟩ := HI6.out.cells
  refine skip_ (w1 := ?_) (by rfl) rfl ?_ ?_
  rotate_left
  · go_simp
    rfl
  refine hK.out _ _ ?_
  clear hK K
  refine pure_ (i := 14) (N := some 75) (v := ?_) (a' := ?_) #[true, true, true, true, true, true, true, true, true, true, true, true, true, true, true, false, false, false, false, false, false, false] rfl rfl (by kernel_rfl) (fun _ _ _ h => h) (Or.inl ⟨by rfl, ?_⟩) ?_ ?_
  rotate_left
  · intro w'
    go_simp
    with_reducible rfl
  rotate_left
  · simp only [Act.put, List.setIfInBounds_toArray, List.set_cons_zero, List.set_cons_succ, i64_w, i32_w]
    rfl
  refine pure_ (i := 15) (N := some 76) (v := ?_) (a' := ?_) #[true, true, true, true, true, true, true, true, true, true, true, true, true, true, true, true, false, false, false, false, false, false] rfl rfl (by kernel_rfl) (fun _ _ _ h => h) (Or.inl ⟨by rfl, ?_⟩) ?_ ?_
  rotate_left
  · intro w'
    go_simp
    with_reducible rfl
  rotate_left
  · simp only [Act.put, List.setIfInBounds_toArray, List.set_cons_zero, List.set_cons_succ, i64_w, i32_w]
    rfl
  refine pure_ (i := 16) (N := some 77) (v := ?_) (a' := ?_) #[true, true, true, true, true, true, true, true, true, true, true, true, true, true, true, true, true, false, false, false, false, false] rfl rfl (by kernel_rfl) (fun _ _ _ h => h) (Or.inl ⟨by rfl, ?_⟩) ?_ ?_
  rotate_left
  · intro w'
    go_simp
    with_reducible rfl
  rotate_left
  · simp only [Act.put, List.setIfInBounds_toArray, List.set_cons_zero, List.set_cons_succ, i64_w, i32_w]
    rfl
  refine last_ (i := 17) (N := none) #[true, true, true, true, true, true, true, true, true, true, true, true, true, true, true, true, true, true, false, false, false, false] rfl rfl (by kernel_rfl) (by decide) (fun K hK => ?_)
  refine skip_ (w1 := ?_) (by rfl) rfl ?_ ?_
  rotate_left
  · go_simp
    rfl
  refine hK.out _ _ ?_
  clear hK K
  refine pure_ (i := 18) (N := some 78) (v := ?_) (a' := ?_) #[true, true, true, true, true, true, true, true, true, true, true, true, true, true, true, true, true, true, true, false, false, false] rfl rfl (by kernel_rfl) (fun _ _ _ h => h) (Or.inl ⟨by rfl, ?_⟩) ?_ ?_
  rotate_left
  · intro w'
    go_simp
    with_reducible rfl
  rotate_left
  · simp only [Act.put, List.setIfInBounds_toArray, List.set_cons_zero, List.set_cons_succ, i64_w, i32_w]
    rfl
  refine pure_ (i := 19) (N := some 79) (v := ?_) (a' := ?_) #[true, true, true, true, true, true, true, true, true, true, true, true, true, true, true, true, true, true, true, true, false, false] rfl rfl (by kernel_rfl) (fun _ _ _ h => h) (Or.inl ⟨by rfl, ?_⟩) ?_ ?_
  rotate_left
  · intro w'
    go_simp
    with_reducible rfl
  rotate_left
  · simp only [Act.put, List.setIfInBounds_toArray, List.set_cons_zero, List.set_cons_succ, i64_w, i32_w]
    rfl
  refine pure_ (i := 20) (N := some 80) (v := ?_) (a' := ?_) #[true, true, true, true, true, true, true, true, true, true, true, true, true, true, true, true, true, true, true, true, true, false] rfl rfl (by kernel_rfl) (fun _ _ _ h => h) (Or.inl ⟨by rfl, ?_⟩) ?_ ?_
  rotate_left
  · intro w'
    go_simp
    with_reducible rfl
  rotate_left
  · simp only [Act.put, List.setIfInBounds_toArray, List.set_cons_zero, List.set_cons_succ, i64_w, i32_w]
    rfl
  refine last_ (i := 21) (N := none) #[true, true, true, true, true, true, true, true, true, true, true, true, true, true, true, true, true, true, true, true, true, true] rfl rfl (by kernel_rfl) (by decide) (fun K hK => ?_)
  refine skip_ (w1 := ?_) (by rfl) rfl ?_ ?_
  rotate_left
  · go_simp
    rfl
  refine hK.out _ _ ?_
  clear hK K
  refine done_ (by kernel_rfl) ?_
  have c1 : StC (w6.setCell ⟨g, 0, none⟩ (.int .i64 m5)) g m5 s (.slice A3 l.length c3) st ap (.slice none 0 0) := blk_put HI6.out 0 _ rfl
  have c2 : StC ((w6.setCell ⟨g, 0, none⟩ (.int .i64 m5)).setCell ⟨g, 2, none⟩ (.slice none 0 0)) g m5 s (.slice none 0 0) st ap (.slice none 0 0) := blk_put c1 2 _ rfl
  have c3_ : StC (((w6.setCell ⟨g, 0, none⟩ (.int .i64 m5)).setCell ⟨g, 2, none⟩ (.slice none 0 0)).setCell ⟨g, 3, none⟩ (.int .i64 ap)) g m5 s (.slice none 0 0) ap ap (.slice none 0 0) := blk_put c2 3 _ rfl
  have k3 := (((Kq.refl (fun t => t ≠ 79) w6).set HI6.out (fun h => h rfl) 0 (.int .i64 m5)).set c1 (fun h => h rfl) 2 (.slice none 0 0)).set c2 (fun h => h rfl) 3 (.int .i64 ap)
  have b3 := below_set (j := 3) (v := .int .i64 ap) (below_set (j := 2) (v := .slice none 0 0) (below_set (j := 0) (v := .int .i64 m5) HB6.out HG.out) HG.out) HG.out
  have c3d : StC (((w6.setCell ⟨g, 0, none⟩ (.int .i64 m5)).setCell ⟨g, 2, none⟩ (.slice none 0 0)).setCell ⟨g, 3, none⟩ (.int .i64 ap)).drew g m5 s (.slice none 0 0) ap ap (.slice none 0 0) := c3_
  have k3d : Kq (fun t => t ≠ 79) w6 (((w6.setCell ⟨g, 0, none⟩ (.int .i64 m5)).setCell ⟨g, 2, none⟩ (.slice none 0 0)).setCell ⟨g, 3, none⟩ (.int .i64 ap)).drew := k3
  have b3d : Below w.heap.size w (((w6.setCell ⟨g, 0, none⟩ (.int .i64 m5)).setCell ⟨g, 2, none⟩ (.slice none 0 0)).setCell ⟨g, 3, none⟩ (.int .i64 ap)).drew := below_drew1 b3
  generalize (((w6.setCell ⟨g, 0, none⟩ (.int .i64 m5)).setCell ⟨g, 2, none⟩ (.slice none 0 0)).setCell ⟨g, 3, none⟩ (.int .i64 ap)).drew = w8 at c3d k3d b3d ⊢
  have HI8 := Aside0.mk c3d
  have HB8 := Aside0.mk b3d
  have HZ8 := Aside0.mk (k3d _ _ _ (by decide) HZ6.out)
  have HQ8 := Aside0.mk (Kd.Q_nil (Kd.int .i64) 3 w8 w.heap.size (fun _ => True))
  have HR8 := Aside0.mk (Kd.R_nil k53 53 w8 w.heap.size (fun _ => True))
  clear c1 c2 c3_ k3 b3 c3d k3d b3d HI6 HB6 HZ6 HQ6 HR6 hc0 hc1 hc2 hc3 hc4 hc5 hf0 hf1 hf2 hf3 hf4 hf5 hHeld
  obtain ⟨hc0, hc1, hc2, hc3, hc4, hc5, hf0, hf1, hf2, hf3, hf4, hf5⟩ := HI8.out.cells
  go_wp2
  clear hc0 hc1 hc2 hc3 hc4 hc5 hf0 hf1 hf2 hf3 hf4 hf5
  refine start_ (n := 10) (S := fun w' => w'.cell? ⟨g, 0, none⟩ = some (.int .i64 m5) ∧ w'.cell? ⟨g, 1, none⟩ = some (.int .i64 s) ∧ w'.cell? ⟨g, 2, none⟩ = some (.slice none 0 0) ∧ w'.cell? ⟨g, 3, none⟩ = some (.int .i64 ap) ∧ w'.cell? ⟨g, 4, none⟩ = some (.int .i64 ap) ∧ w'.cell? ⟨g, 5, none⟩ = some (.slice none 0 0) ∧ Aside0 (StC w' g m5 s (.slice none 0 0) ap ap (.slice none 0 0)) ∧ Aside0 (Kd.Q (Kd.int .i64) 3 w' w.heap.size (fun _ => True) (.slice none 0 0) ([] : List Int)) ∧ Aside0 (Kd.R k53 53 w' w.heap.size (fun _ => True) (.slice none 0 0) ([] : List S53)) ∧ Aside0 (Below w.heap.size w w')) (ds := []) #[false, false, false, false, false, false, false, false, false, false] (by kernel_rfl) rfl rfl ⟨HI8.out.drew.cells.1, HI8.out.drew.cells.2.1, HI8.out.drew.cells.2.2.1, HI8.out.drew.cells.2.2.2.1, HI8.out.drew.cells.2.2.2.2.1, HI8.out.drew.cells.2.2.2.2.2.1, ⟨HI8.out.drew⟩, ⟨Kd.Q_drew HQ8.out⟩, ⟨Kd.R_drew HR8.out⟩, ⟨below_drew1 HB8.out⟩⟩ (fun hHeld => ?_)
  refine pure_ (i := 0) (N := some 81) (v := ?_) (a' := ?_) #[true, false, false, false, false, false, false, false, false, false] rfl rfl (by kernel_rfl) (fun _ _ _ h => h) (Or.inl ⟨by rfl, ?_⟩) ?_ ?_
  rotate_left
  · intro w'
    go_simp
    with_reducible rfl
  rotate_left
  · simp only [Act.put, List.setIfInBounds_toArray, List.set_cons_zero, List.set_cons_succ, i64_w, i32_w]
    rfl
  refine pure_ (i := 1) (N := some 82) (v := ?_) (a' := ?_) #[true, true, false, false, false, false, false, false, false, false] rfl rfl (by kernel_rfl) (fun _ _ _ h => h) (Or.inl ⟨by rfl, ?_⟩) ?_ ?_
  rotate_left
  · intro w'
    go_simp
    with_reducible rfl
  rotate_left
  · simp only [Act.put, List.setIfInBounds_toArray, List.set_cons_zero, List.set_cons_succ, i64_w, i32_w]
    rfl
  refine pure_ (i := 2) (N := some 83) (v := ?_) (a' := ?_) #[true, true, true, false, false, false, false, false, false, false] rfl rfl (by kernel_rfl) (fun _ _ _ h => h) (Or.inl ⟨by rfl, ?_⟩) ?_ ?_
  rotate_left
  · intro w'
    go_simp
    with_reducible rfl
  rotate_left
  · simp only [Act.put, List.setIfInBounds_toArray, List.set_cons_zero, List.set_cons_succ, i64_w, i32_w]
    rfl
  refine pure_ (i := 4) (N := some 85) (v := ?_) (a' := ?_) #[true, true, true, false, true, false, false, false, false, false] rfl rfl (by kernel_rfl) (fun _ _ _ h => h) (Or.inl ⟨by rfl, ?_⟩) ?_ ?_
  rotate_left
  · intro w'
    go_simp
    with_reducible rfl
  rotate_left
  · simp only [Act.put, List.setIfInBounds_toArray, List.set_cons_zero, List.set_cons_succ, i64_w, i32_w]
    rfl
  refine pure_ (i := 5) (N := some 86) (v := ?_) (a' := ?_) #[true, true, true, false, true, true, false, false, false, false] rfl rfl (by kernel_rfl) (fun _ _ _ h => h) (Or.inl ⟨by rfl, ?_⟩) ?_ ?_
  rotate_left
  · intro w'
    go_simp
    with_reducible rfl
  rotate_left
  · simp only [Act.put, List.setIfInBounds_toArray, List.set_cons_zero, List.set_cons_succ, i64_w, i32_w]
    rfl
  refine pure_ (i := 6) (N := some 87) (v := ?_) (a' := ?_) #[true, true, true, false, true, true, true, false, false, false] rfl rfl (by kernel_rfl) (fun _ _ _ h => h) (Or.inl ⟨by rfl, ?_⟩) ?_ ?_
  rotate_left
  · intro w'
    go_simp
    with_reducible rfl
  rotate_left
  · simp only [Act.put, List.setIfInBounds_toArray, List.set_cons_zero, List.set_cons_succ, i64_w, i32_w]
    rfl
  refine take_ (i := 3) (N := some 84) (v := ?_) (a' := ?_) #[true, true, true, true, true, true, true, false, false, false] rfl rfl (by kernel_rfl) (fun _ _ _ h => h) (Or.inl ⟨by rfl, ?_⟩) hHeld ?_ ?_
  rotate_left
  · rintro w' ⟨s0, s1, s2, s3, s4, s5, s6, s7, s8, s9⟩
    go_simp
    with_reducible rfl
  rotate_left
  · simp only [Act.put, List.setIfInBounds_toArray, List.set_cons_zero, List.set_cons_succ, i64_w, i32_w]
    rfl
  refine take_ (i := 7) (N := some 88) (v := ?_) (a' := ?_) #[true, true, true, true, true, true, true, true, false, false] rfl rfl (by kernel_rfl) (fun _ _ _ h => h) (Or.inl ⟨by rfl, ?_⟩) hHeld ?_ ?_
  rotate_left
  · rintro w' ⟨s0, s1, s2, s3, s4, s5, s6, s7, s8, s9⟩
    go_simp
    with_reducible rfl
  rotate_left
  · simp only [Act.put, List.setIfInBounds_toArray, List.set_cons_zero, List.set_cons_succ, i64_w, i32_w]
    rfl
  refine one_ (i := 8) (N := none) #[true, true, true, true, true, true, true, true, true, false] rfl rfl (by kernel_rfl) (by decide) (fun K hK => ?_)
  clear hHeld
  have hz := HZ8.out
  have hcz0 := (blk_cell hz 0).trans rfl
  have hcz1 := (blk_cell hz 1).trans rfl
  have hcz2 := (blk_cell hz 2).trans rfl
  have hcz3 := (blk_cell hz 3).trans rfl
  have hcz4 := (blk_cell hz 4).trans rfl
  have hfz0 := blk_frozen hz 0
  have hfz1 := blk_frozen hz 1
  have hfz2 := blk_frozen hz 2
  have hfz3 := blk_frozen hz 3
  have hfz4 := blk_frozen hz 4
  clear hz
  refine skip_ (w1 := ?_) (by rfl) rfl ?_ ?_
  rotate_left
  · go_simp
    rfl
  have HK10 := Aside0.mk (kq_set5 (v0 := .int .i64 m5) (v1 := .int .i64 s) (v2 := .slice none 0 0) (v3 := .int .i64 ap) (v4 := .int .i64 ap) (Kq.refl (fun t => t ≠ 24) _) HZ8.out (fun h => h rfl))
  have HI10 := Aside0.mk (StC.drew (show StC _ g m5 s (.slice none 0 0) ap ap (.slice none 0 0) from HK10.out _ _ _ (by decide) HI8.out))
  have HQ10 := Aside0.mk (Kd.Q_drew (Q_kq HQ8.out HK10.out (by decide)))
  have HR10 := Aside0.mk (Kd.R_drew (R_kq HR8.out HK10.out (by decide)))
  have HB10 := Aside0.mk (below_drew1 (below_set5 (v0 := .int .i64 m5) (v1 := .int .i64 s) (v2 := .slice none 0 0) (v3 := .int .i64 ap) (v4 := .int .i64 ap) HB8.out hgz))
  clear HK10
  refine hK.out _ _ ⟨HI10.out.cells.1, HI10.out.cells.2.1, HI10.out.cells.2.2.1, HI10.out.cells.2.2.2.1, HI10.out.cells.2.2.2.2.1, HI10.out.cells.2.2.2.2.2.1, HI10, HQ10, HR10, HB10⟩ (fun hHeld => ?_)
  clear hK K
  refine pure_ (i := 9) (N := some 5) (v := ?_) (a' := ?_) #[true, true, true, true, true, true, true, true, true, true] rfl rfl (by kernel_rfl) (fun _ _ _ h => h) (Or.inl ⟨by rfl, ?_⟩) ?_ ?_
  rotate_left
  · intro w'
    go_simp
    with_reducible rfl
  rotate_left
  · simp only [Act.put, List.setIfInBounds_toArray, List.set_cons_zero, List.set_cons_succ, i64_w, i32_w]
    rfl
  refine done_ (by kernel_rfl) ?_
  obtain ⟨-, -, -, -, -, -, HI11, HQ11, HR11, HB11⟩ := hHeld
  go_wp2
  refine bodyPost_ret (results_ct rfl _ _ (w.heap.size + 1 + 1) 24 #[.int .i64 m5, .int .i64 s, .slice none 0 0, .int .i64 ap, .int .i64 ap] (0, 0) _ rfl (blk_put5 HZ8.out) Try.underlying24 rfl (by kernel_rfl)) rfl ?_
  exact ⟨_, _, rfl, HQ11.out, HR11.out, HB11.out⟩
set_option maxHeartbeats 16000000 in
set_option maxRecDepth 100000 in
theorem learn_stored_no (k : Nat) (e s st ap : Int) (A : Option Addr) (c : Nat) (l : List Int) (m0 m1 m2 m3 m4 m5 : Int) (q6 q7 : Value) (w : World) (hr : Kd.C (Kd.int .i64) w A l.length l) (hc : l.length ≤ c) (h : commit_CheckSource.f k e s l st ap = some 0) (h1 : m1 = s) (h2 : ¬ m5 < e) (ht : commit_time.f m5 = some true) (hlb : l.length ≤ 1000000) (hk : m0 = 9) (h3 : m5 = e) (b : Bool) (h4 : slices_Contains_int_int.f k l m4 = some b) (h5 : b = false ∨ m4 < st) :
    Calls Try.prog 29 #[.agg #[.int .i64 e, .int .i64 s, .slice A l.length c, .int .i64 st, .int .i64 ap], .agg #[.int .i64 m0, .int .i64 m1, .int .i64 m2, .int .i64 m3, .int .i64 m4, .int .i64 m5, q6, q7]] w fun e' w' => ∃ v2_ v5_ : Value, e' = .returned (.tuple #[.agg #[.int .i64 e, .int .i64 s, v2_, .int .i64 st, .int .i64 ap], v5_]) ∧ Kd.Q (Kd.int .i64) 3 w' w.heap.size (fun _ => True) v2_ l ∧ Kd.R k53 53 w' w.heap.size (fun _ => True) v5_ ([] : List S53) ∧ Below w.heap.size w w' := by
  have hu79 := Try.underlying79
  have hu24 := Try.underlying24
  have hu53 := Try.underlying53
  have HR := Aside0.mk hr
  have HC := Aside0.mk hc
  clear hr hc
  have hn1 : (m1 != s) = false := by rw [h1]; exact bne_self_eq_false s
  have hn2 : decide (m5 < e) = false := decide_eq_false h2
  have H := Aside0.mk h
  clear h
  have H1 := Aside0.mk h1
  clear h1
  have H2 := Aside0.mk h2
  clear h2
  have HT := Aside0.mk ht
  clear ht
  have HLB := Aside0.mk hlb
  clear hlb
  have hgt : decide (e < m5) = false := decide_eq_false (by omega)
  have H3 := Aside0.mk h3
  clear h3
  have HK := Aside0.mk hk
  clear hk
  have H4 := Aside0.mk h4
  clear h4
  have H5 := Aside0.mk h5
  clear h5
  have hgz : w.heap.size ≤ w.heap.size + 1 + 1 := by omega
  go_enter Try.func29, Try.ntmps29
  go_wp2_with fail
  have hW := three_alloc w #[.int .i64 e, .int .i64 s, .slice A l.length c, .int .i64 st, .int .i64 ap] #[.int .i64 m0, .int .i64 m1, .int .i64 m2, .int .i64 m3, .int .i64 m4, .int .i64 m5, q6, q7] #[.int .i64 0, .int .i64 0, .slice none 0 0, .int .i64 0, .int .i64 0]
  generalize ((w.alloc (.cells #[.int .i64 e, .int .i64 s, .slice A l.length c, .int .i64 st, .int .i64 ap] 24)).alloc (.cells #[.int .i64 m0, .int .i64 m1, .int .i64 m2, .int .i64 m3, .int .i64 m4, .int .i64 m5, q6, q7] 53)).alloc (.cells #[.int .i64 0, .int .i64 0, .slice none 0 0, .int .i64 0, .int .i64 0] 24) = W at hW ⊢
  refine (commit_CheckSource.calls k e s A c l st ap 0 W (Kd.C_below HR.out hW.2.2.2) HC.out H.out).mono ?_
  rintro e' w1 ⟨rfl, hb⟩
  have HX1 := Aside0.mk (blk_below hW.1 hb)
  have HM1 := Aside0.mk (blk_below hW.2.1 hb)
  have HZ1 := Aside0.mk (blk_below hW.2.2.1 hb)
  have HB1 := Aside0.mk (below_then hW.2.2.2 hW.2.2.2.size hb)
  clear hb hW
  have hx := HX1.out
  have hcx0 := (blk_cell hx 0).trans rfl
  have hcx1 := (blk_cell hx 1).trans rfl
  have hcx2 := (blk_cell hx 2).trans rfl
  have hcx3 := (blk_cell hx 3).trans rfl
  have hcx4 := (blk_cell hx 4).trans rfl
  have hfx0 := blk_frozen hx 0
  have hfx1 := blk_frozen hx 1
  have hfx2 := blk_frozen hx 2
  have hfx3 := blk_frozen hx 3
  have hfx4 := blk_frozen hx 4
  clear hx
  have hm := HM1.out
  have hcm0 := (blk_cell hm 0).trans rfl
  have hcm1 := (blk_cell hm 1).trans rfl
  have hcm2 := (blk_cell hm 2).trans rfl
  have hcm3 := (blk_cell hm 3).trans rfl
  have hcm4 := (blk_cell hm 4).trans rfl
  have hcm5 := (blk_cell hm 5).trans rfl
  clear hm
  have hz := HZ1.out
  have hcz0 := (blk_cell hz 0).trans rfl
  have hcz1 := (blk_cell hz 1).trans rfl
  have hcz2 := (blk_cell hz 2).trans rfl
  have hcz3 := (blk_cell hz 3).trans rfl
  have hcz4 := (blk_cell hz 4).trans rfl
  have hfz0 := blk_frozen hz 0
  have hfz1 := blk_frozen hz 1
  have hfz2 := blk_frozen hz 2
  have hfz3 := blk_frozen hz 3
  have hfz4 := blk_frozen hz 4
  clear hz
  go_wp2_with fail
  refine (commit_time.calls m5 true _ HT.out).mono ?_
  rintro e' w2 ⟨rfl, hd⟩
  clear hcx0 hfx0 hcx1 hfx1 hcx2 hfx2 hcx3 hfx3 hcx4 hfx4
  clear hcm0 hcm1 hcm2 hcm3 hcm4 hcm5
  clear hcz0 hfz0 hcz1 hfz1 hcz2 hfz2 hcz3 hfz3 hcz4 hfz4
  have HX2 := Aside0.mk (blk_below HX1.out hd.below)
  have HM2 := Aside0.mk (blk_below HM1.out hd.below)
  have HZ2 := Aside0.mk (blk_below HZ1.out hd.below)
  have HB2 := Aside0.mk (below_then HB1.out HB1.out.size hd.below)
  clear HX1 HM1 HZ1 HB1
  clear hd
  have hx := HX2.out
  have hcx0 := (blk_cell hx 0).trans rfl
  have hcx1 := (blk_cell hx 1).trans rfl
  have hcx2 := (blk_cell hx 2).trans rfl
  have hcx3 := (blk_cell hx 3).trans rfl
  have hcx4 := (blk_cell hx 4).trans rfl
  have hfx0 := blk_frozen hx 0
  have hfx1 := blk_frozen hx 1
  have hfx2 := blk_frozen hx 2
  have hfx3 := blk_frozen hx 3
  have hfx4 := blk_frozen hx 4
  clear hx
  have hm := HM2.out
  have hcm0 := (blk_cell hm 0).trans rfl
  have hcm1 := (blk_cell hm 1).trans rfl
  have hcm2 := (blk_cell hm 2).trans rfl
  have hcm3 := (blk_cell hm 3).trans rfl
  have hcm4 := (blk_cell hm 4).trans rfl
  have hcm5 := (blk_cell hm 5).trans rfl
  clear hm
  have hz := HZ2.out
  have hcz0 := (blk_cell hz 0).trans rfl
  have hcz1 := (blk_cell hz 1).trans rfl
  have hcz2 := (blk_cell hz 2).trans rfl
  have hcz3 := (blk_cell hz 3).trans rfl
  have hcz4 := (blk_cell hz 4).trans rfl
  have hfz0 := blk_frozen hz 0
  have hfz1 := blk_frozen hz 1
  have hfz2 := blk_frozen hz 2
  have hfz3 := blk_frozen hz 3
  have hfz4 := blk_frozen hz 4
  clear hz
  go_wp2_with fail
  have HC2 := Aside0.mk (Kd.C_below HR.out HB2.out)
  refine (commit_begin_calls e s st ap _ c l w2 HC2.out HC.out HLB.out).mono ?_
  rintro e' w3 ⟨g, v, rfl, hI, hR, hg, hb⟩
  obtain ⟨A3, c3, rfl⟩ := Kd.R_slice hR
  have HI3 := Aside0.mk hI
  have HQ3 := Aside0.mk (Kd.R_lower hR HB2.out.size)
  have HG := Aside0.mk (Nat.le_trans HB2.out.size hg)
  clear hcx0 hfx0 hcx1 hfx1 hcx2 hfx2 hcx3 hfx3 hcx4 hfx4
  clear hcm0 hcm1 hcm2 hcm3 hcm4 hcm5
  clear hcz0 hfz0 hcz1 hfz1 hcz2 hfz2 hcz3 hfz3 hcz4 hfz4
  have HX3 := Aside0.mk (blk_below HX2.out hb)
  have HM3 := Aside0.mk (blk_below HM2.out hb)
  have HZ3 := Aside0.mk (blk_below HZ2.out hb)
  have HB3 := Aside0.mk (below_then HB2.out HB2.out.size hb)
  clear HX2 HM2 HZ2 HB2
  clear hI hR hg hb HC2 HC HR
  obtain ⟨hc0, hc1, hc2, hc3, hc4, hc5, hf0, hf1, hf2, hf3, hf4, hf5⟩ := HI3.out.cells
  have hm := HM3.out
  have hcm0 := (blk_cell hm 0).trans rfl
  have hcm1 := (blk_cell hm 1).trans rfl
  have hcm2 := (blk_cell hm 2).trans rfl
  have hcm3 := (blk_cell hm 3).trans rfl
  have hcm4 := (blk_cell hm 4).trans rfl
  have hcm5 := (blk_cell hm 5).trans rfl
  clear hm
  have hmk := @run_makeMap Try.prog
  obtain ⟨f51, hf51⟩ : ∃ v : Value, v = .func (.func 51) #[.pointer (some ⟨g, 0, none⟩)] #[] := ⟨_, rfl⟩
  obtain ⟨f52, hf52⟩ : ∃ v : Value, v = .func (.func 52) #[.pointer (some ⟨g, 0, none⟩)] #[] := ⟨_, rfl⟩
  obtain ⟨f53, hf53⟩ : ∃ v : Value, v = .func (.func 53) #[.pointer (some ⟨g, 0, none⟩)] #[] := ⟨_, rfl⟩
  have HF51 := Aside0.mk hf51
  have HF52 := Aside0.mk hf52
  have HF53 := Aside0.mk hf53
  clear hf51 hf52 hf53
  go_wp2_with (first | (refine wpList_insert_at _ rfl (.tmp 36) (.const (.int .i64 9)) (.tmp 38) 86 rfl Try.underlying86 Try.underlying3 w3.heap.size #[] 0 9 f51 rfl rfl (by rw [HF51.out]; rfl) (MapKept.heap_alloc _ _).1 rfl ?_; intro w4 hp4 hg4; have HP4 := Aside0.mk hp4; have HG4 := Aside0.mk hg4; clear hp4 hg4) | (refine wpList_insert_at _ rfl (.tmp 36) (.const (.int .i64 11)) (.tmp 40) 86 rfl Try.underlying86 Try.underlying3 w3.heap.size #[⟨.int .i64 9, f51, 0⟩] 1 11 f52 rfl rfl (by rw [HF52.out]; rfl) HP4.out rfl ?_; intro w5 hp5 hg5; have HP5 := Aside0.mk hp5; have HG5 := Aside0.mk (HG4.out.trans hg5); clear hp5 hg5 HP4 HG4) | (refine wpList_insert_at _ rfl (.tmp 36) (.const (.int .i64 12)) (.tmp 42) 86 rfl Try.underlying86 Try.underlying3 w3.heap.size #[⟨.int .i64 9, f51, 0⟩, ⟨.int .i64 11, f52, 1⟩] 2 12 f53 rfl rfl (by rw [HF53.out]; rfl) HP5.out rfl ?_; intro w6 hp6 hg6; have hb6 := map_below (HG5.out.trans hg6); clear hc0 hc1 hc2 hc3 hc4 hc5 hf0 hf1 hf2 hf3 hf4 hf5; clear hcm0 hcm1 hcm2 hcm3 hcm4 hcm5; have HX6 := Aside0.mk (blk_below HX3.out hb6); have HM6 := Aside0.mk (blk_below HM3.out hb6); have HZ6 := Aside0.mk (blk_below HZ3.out hb6); have HB6 := Aside0.mk (below_then HB3.out HB3.out.size hb6); have HI6 := Aside0.mk (HI3.out.below hb6); have HQ6 := Aside0.mk (Kd.R_below HQ3.out hb6); clear HX3 HM3 HZ3 HB3 HI3 HQ3; have hm := HM6.out; have hcm0 := (blk_cell hm 0).trans rfl; have hcm1 := (blk_cell hm 1).trans rfl; have hcm2 := (blk_cell hm 2).trans rfl; have hcm3 := (blk_cell hm 3).trans rfl; have hcm4 := (blk_cell hm 4).trans rfl; have hcm5 := (blk_cell hm 5).trans rfl; clear hm; have hx := HX6.out; have hcx0 := (blk_cell hx 0).trans rfl; have hcx1 := (blk_cell hx 1).trans rfl; have hcx2 := (blk_cell hx 2).trans rfl; have hcx3 := (blk_cell hx 3).trans rfl; have hcx4 := (blk_cell hx 4).trans rfl; have hfx0 := blk_frozen hx 0; have hfx1 := blk_frozen hx 1; have hfx2 := blk_frozen hx 2; have hfx3 := blk_frozen hx 3; have hfx4 := blk_frozen hx 4; clear hx; obtain ⟨hc0, hc1, hc2, hc3, hc4, hc5, hf0, hf1, hf2, hf3, hf4, hf5⟩ := HI6.out.cells; have hlk := look_int (P := Try.prog) Try.underlying86 Try.underlying3 hp6 m0 0 f51 (by rw [HK.out]; rfl) true; rw [HF51.out] at hlk; clear hp6 hg6 HP5 HG5 hb6))
  have HR6 := Aside0.mk (Kd.R_nil k53 53 w6 w.heap.size (fun _ => True))
  have HQ6' := Aside0.mk (Kd.Q_of_R HQ6.out)
  clear HQ6
  have HQ6 := HQ6'
  clear HQ6'
  refine (stored_no k g e s st ap m4 A3 c3 l _ [] b (fun _ => True) w w6 HI6.out HG.out HB6.out HQ6.out HR6.out H4.out H5.out).mono ?_
  rintro e' w7 ⟨rfl, A7, c7, u7, hI7, hQ7, hR7, hB7, hK7⟩
  have HI7 := Aside0.mk hI7
  have HQ7 := Aside0.mk hQ7
  have HR7 := Aside0.mk hR7
  have HB7 := Aside0.mk hB7
  have HZ7 := Aside0.mk (hK7 _ _ _ (by decide) HZ6.out)
  clear hc0 hc1 hc2 hc3 hc4 hc5 hf0 hf1 hf2 hf3 hf4 hf5
  clear hI7 hQ7 hR7 hB7 hK7 HI6 HQ6 HR6 HB6 HZ6
  obtain ⟨hc0, hc1, hc2, hc3, hc4, hc5, hf0, hf1, hf2, hf3, hf4, hf5⟩ := HI7.out.cells
  go_wp2
  clear hc0 hc1 hc2 hc3 hc4 hc5 hf0 hf1 hf2 hf3 hf4 hf5
  refine start_ (n := 10) (S := fun w' => w'.cell? ⟨g, 0, none⟩ = some (.int .i64 e) ∧ w'.cell? ⟨g, 1, none⟩ = some (.int .i64 s) ∧ w'.cell? ⟨g, 2, none⟩ = some (.slice A7 l.length c7) ∧ w'.cell? ⟨g, 3, none⟩ = some (.int .i64 st) ∧ w'.cell? ⟨g, 4, none⟩ = some (.int .i64 ap) ∧ w'.cell? ⟨g, 5, none⟩ = some (u7) ∧ Aside0 (StC w' g e s (.slice A7 l.length c7) st ap (u7)) ∧ Aside0 (Kd.Q (Kd.int .i64) 3 w' w.heap.size (fun _ => True) (.slice A7 l.length c7) l) ∧ Aside0 (Kd.R k53 53 w' w.heap.size (fun _ => True) (u7) ([] : List S53)) ∧ Aside0 (Below w.heap.size w w')) (ds := []) #[false, false, false, false, false, false, false, false, false, false] (by kernel_rfl) rfl rfl ⟨HI7.out.drew.cells.1, HI7.out.drew.cells.2.1, HI7.out.drew.cells.2.2.1, HI7.out.drew.cells.2.2.2.1, HI7.out.drew.cells.2.2.2.2.1, HI7.out.drew.cells.2.2.2.2.2.1, ⟨HI7.out.drew⟩, ⟨Kd.Q_drew HQ7.out⟩, ⟨Kd.R_drew HR7.out⟩, ⟨below_drew1 HB7.out⟩⟩ (fun hHeld => ?_)
  refine pure_ (i := 0) (N := some 81) (v := ?_) (a' := ?_) #[true, false, false, false, false, false, false, false, false, false] rfl rfl (by kernel_rfl) (fun _ _ _ h => h) (Or.inl ⟨by rfl, ?_⟩) ?_ ?_
  rotate_left
  · intro w'
    go_simp
    with_reducible rfl
  rotate_left
  · simp only [Act.put, List.setIfInBounds_toArray, List.set_cons_zero, List.set_cons_succ, i64_w, i32_w]
    rfl
  refine pure_ (i := 1) (N := some 82) (v := ?_) (a' := ?_) #[true, true, false, false, false, false, false, false, false, false] rfl rfl (by kernel_rfl) (fun _ _ _ h => h) (Or.inl ⟨by rfl, ?_⟩) ?_ ?_
  rotate_left
  · intro w'
    go_simp
    with_reducible rfl
  rotate_left
  · simp only [Act.put, List.setIfInBounds_toArray, List.set_cons_zero, List.set_cons_succ, i64_w, i32_w]
    rfl
  refine pure_ (i := 2) (N := some 83) (v := ?_) (a' := ?_) #[true, true, true, false, false, false, false, false, false, false] rfl rfl (by kernel_rfl) (fun _ _ _ h => h) (Or.inl ⟨by rfl, ?_⟩) ?_ ?_
  rotate_left
  · intro w'
    go_simp
    with_reducible rfl
  rotate_left
  · simp only [Act.put, List.setIfInBounds_toArray, List.set_cons_zero, List.set_cons_succ, i64_w, i32_w]
    rfl
  refine pure_ (i := 4) (N := some 85) (v := ?_) (a' := ?_) #[true, true, true, false, true, false, false, false, false, false] rfl rfl (by kernel_rfl) (fun _ _ _ h => h) (Or.inl ⟨by rfl, ?_⟩) ?_ ?_
  rotate_left
  · intro w'
    go_simp
    with_reducible rfl
  rotate_left
  · simp only [Act.put, List.setIfInBounds_toArray, List.set_cons_zero, List.set_cons_succ, i64_w, i32_w]
    rfl
  refine pure_ (i := 5) (N := some 86) (v := ?_) (a' := ?_) #[true, true, true, false, true, true, false, false, false, false] rfl rfl (by kernel_rfl) (fun _ _ _ h => h) (Or.inl ⟨by rfl, ?_⟩) ?_ ?_
  rotate_left
  · intro w'
    go_simp
    with_reducible rfl
  rotate_left
  · simp only [Act.put, List.setIfInBounds_toArray, List.set_cons_zero, List.set_cons_succ, i64_w, i32_w]
    rfl
  refine pure_ (i := 6) (N := some 87) (v := ?_) (a' := ?_) #[true, true, true, false, true, true, true, false, false, false] rfl rfl (by kernel_rfl) (fun _ _ _ h => h) (Or.inl ⟨by rfl, ?_⟩) ?_ ?_
  rotate_left
  · intro w'
    go_simp
    with_reducible rfl
  rotate_left
  · simp only [Act.put, List.setIfInBounds_toArray, List.set_cons_zero, List.set_cons_succ, i64_w, i32_w]
    rfl
  refine take_ (i := 3) (N := some 84) (v := ?_) (a' := ?_) #[true, true, true, true, true, true, true, false, false, false] rfl rfl (by kernel_rfl) (fun _ _ _ h => h) (Or.inl ⟨by rfl, ?_⟩) hHeld ?_ ?_
  rotate_left
  · rintro w' ⟨s0, s1, s2, s3, s4, s5, s6, s7, s8, s9⟩
    go_simp
    with_reducible rfl
  rotate_left
  · simp only [Act.put, List.setIfInBounds_toArray, List.set_cons_zero, List.set_cons_succ, i64_w, i32_w]
    rfl
  refine take_ (i := 7) (N := some 88) (v := ?_) (a' := ?_) #[true, true, true, true, true, true, true, true, false, false] rfl rfl (by kernel_rfl) (fun _ _ _ h => h) (Or.inl ⟨by rfl, ?_⟩) hHeld ?_ ?_
  rotate_left
  · rintro w' ⟨s0, s1, s2, s3, s4, s5, s6, s7, s8, s9⟩
    go_simp
    with_reducible rfl
  rotate_left
  · simp only [Act.put, List.setIfInBounds_toArray, List.set_cons_zero, List.set_cons_succ, i64_w, i32_w]
    rfl
  refine one_ (i := 8) (N := none) #[true, true, true, true, true, true, true, true, true, false] rfl rfl (by kernel_rfl) (by decide) (fun K hK => ?_)
  clear hHeld
  have hz := HZ7.out
  have hcz0 := (blk_cell hz 0).trans rfl
  have hcz1 := (blk_cell hz 1).trans rfl
  have hcz2 := (blk_cell hz 2).trans rfl
  have hcz3 := (blk_cell hz 3).trans rfl
  have hcz4 := (blk_cell hz 4).trans rfl
  have hfz0 := blk_frozen hz 0
  have hfz1 := blk_frozen hz 1
  have hfz2 := blk_frozen hz 2
  have hfz3 := blk_frozen hz 3
  have hfz4 := blk_frozen hz 4
  clear hz
  refine skip_ (w1 := ?_) (by rfl) rfl ?_ ?_
  rotate_left
  · go_simp
    rfl
  have HK10 := Aside0.mk (kq_set5 (v0 := .int .i64 e) (v1 := .int .i64 s) (v2 := .slice A7 l.length c7) (v3 := .int .i64 st) (v4 := .int .i64 ap) (Kq.refl (fun t => t ≠ 24) _) HZ7.out (fun h => h rfl))
  have HI10 := Aside0.mk (StC.drew (show StC _ g e s (.slice A7 l.length c7) st ap (u7) from HK10.out _ _ _ (by decide) HI7.out))
  have HQ10 := Aside0.mk (Kd.Q_drew (Q_kq HQ7.out HK10.out (by decide)))
  have HR10 := Aside0.mk (Kd.R_drew (R_kq HR7.out HK10.out (by decide)))
  have HB10 := Aside0.mk (below_drew1 (below_set5 (v0 := .int .i64 e) (v1 := .int .i64 s) (v2 := .slice A7 l.length c7) (v3 := .int .i64 st) (v4 := .int .i64 ap) HB7.out hgz))
  clear HK10
  refine hK.out _ _ ⟨HI10.out.cells.1, HI10.out.cells.2.1, HI10.out.cells.2.2.1, HI10.out.cells.2.2.2.1, HI10.out.cells.2.2.2.2.1, HI10.out.cells.2.2.2.2.2.1, HI10, HQ10, HR10, HB10⟩ (fun hHeld => ?_)
  clear hK K
  refine pure_ (i := 9) (N := some 5) (v := ?_) (a' := ?_) #[true, true, true, true, true, true, true, true, true, true] rfl rfl (by kernel_rfl) (fun _ _ _ h => h) (Or.inl ⟨by rfl, ?_⟩) ?_ ?_
  rotate_left
  · intro w'
    go_simp
    with_reducible rfl
  rotate_left
  · simp only [Act.put, List.setIfInBounds_toArray, List.set_cons_zero, List.set_cons_succ, i64_w, i32_w]
    rfl
  refine done_ (by kernel_rfl) ?_
  obtain ⟨-, -, -, -, -, -, HI11, HQ11, HR11, HB11⟩ := hHeld
  go_wp2
  refine bodyPost_ret (results_ct rfl _ _ (w.heap.size + 1 + 1) 24 #[.int .i64 e, .int .i64 s, .slice A7 l.length c7, .int .i64 st, .int .i64 ap] (0, 0) _ rfl (blk_put5 HZ7.out) Try.underlying24 rfl (by kernel_rfl)) rfl ?_
  exact ⟨_, _, rfl, HQ11.out, HR11.out, HB11.out⟩
set_option maxHeartbeats 16000000 in
set_option maxRecDepth 100000 in
theorem learn_stored_yes (k : Nat) (e s st ap : Int) (A : Option Addr) (c : Nat) (l : List Int) (m0 m1 m2 m3 m4 m5 : Int) (q6 q7 : Value) (w : World) (hr : Kd.C (Kd.int .i64) w A l.length l) (hc : l.length ≤ c) (h : commit_CheckSource.f k e s l st ap = some 0) (h1 : m1 = s) (h2 : ¬ m5 < e) (ht : commit_time.f m5 = some true) (hlb : l.length ≤ 1000000) (hk : m0 = 9) (h3 : m5 = e) (h4 : slices_Contains_int_int.f k l m4 = some true) (h5 : st ≤ m4) :
    Calls Try.prog 29 #[.agg #[.int .i64 e, .int .i64 s, .slice A l.length c, .int .i64 st, .int .i64 ap], .agg #[.int .i64 m0, .int .i64 m1, .int .i64 m2, .int .i64 m3, .int .i64 m4, .int .i64 m5, q6, q7]] w fun e' w' => ∃ v2_ v5_ : Value, e' = .returned (.tuple #[.agg #[.int .i64 e, .int .i64 s, v2_, .int .i64 m4, .int .i64 ap], v5_]) ∧ Kd.Q (Kd.int .i64) 3 w' w.heap.size (fun _ => True) v2_ l ∧ Kd.R k53 53 w' w.heap.size (fun _ => True) v5_ [(⟨10, 0, s, m4, 0, e, (), ()⟩ : S53)] ∧ Below w.heap.size w w' := by
  have hu79 := Try.underlying79
  have hu24 := Try.underlying24
  have hu53 := Try.underlying53
  have HR := Aside0.mk hr
  have HC := Aside0.mk hc
  clear hr hc
  have hn1 : (m1 != s) = false := by rw [h1]; exact bne_self_eq_false s
  have hn2 : decide (m5 < e) = false := decide_eq_false h2
  have H := Aside0.mk h
  clear h
  have H1 := Aside0.mk h1
  clear h1
  have H2 := Aside0.mk h2
  clear h2
  have HT := Aside0.mk ht
  clear ht
  have HLB := Aside0.mk hlb
  clear hlb
  have hgt : decide (e < m5) = false := decide_eq_false (by omega)
  have H3 := Aside0.mk h3
  clear h3
  have HK := Aside0.mk hk
  clear hk
  have H4 := Aside0.mk h4
  clear h4
  have H5 := Aside0.mk h5
  clear h5
  have hgz : w.heap.size ≤ w.heap.size + 1 + 1 := by omega
  go_enter Try.func29, Try.ntmps29
  go_wp2_with fail
  have hW := three_alloc w #[.int .i64 e, .int .i64 s, .slice A l.length c, .int .i64 st, .int .i64 ap] #[.int .i64 m0, .int .i64 m1, .int .i64 m2, .int .i64 m3, .int .i64 m4, .int .i64 m5, q6, q7] #[.int .i64 0, .int .i64 0, .slice none 0 0, .int .i64 0, .int .i64 0]
  generalize ((w.alloc (.cells #[.int .i64 e, .int .i64 s, .slice A l.length c, .int .i64 st, .int .i64 ap] 24)).alloc (.cells #[.int .i64 m0, .int .i64 m1, .int .i64 m2, .int .i64 m3, .int .i64 m4, .int .i64 m5, q6, q7] 53)).alloc (.cells #[.int .i64 0, .int .i64 0, .slice none 0 0, .int .i64 0, .int .i64 0] 24) = W at hW ⊢
  refine (commit_CheckSource.calls k e s A c l st ap 0 W (Kd.C_below HR.out hW.2.2.2) HC.out H.out).mono ?_
  rintro e' w1 ⟨rfl, hb⟩
  have HX1 := Aside0.mk (blk_below hW.1 hb)
  have HM1 := Aside0.mk (blk_below hW.2.1 hb)
  have HZ1 := Aside0.mk (blk_below hW.2.2.1 hb)
  have HB1 := Aside0.mk (below_then hW.2.2.2 hW.2.2.2.size hb)
  clear hb hW
  have hx := HX1.out
  have hcx0 := (blk_cell hx 0).trans rfl
  have hcx1 := (blk_cell hx 1).trans rfl
  have hcx2 := (blk_cell hx 2).trans rfl
  have hcx3 := (blk_cell hx 3).trans rfl
  have hcx4 := (blk_cell hx 4).trans rfl
  have hfx0 := blk_frozen hx 0
  have hfx1 := blk_frozen hx 1
  have hfx2 := blk_frozen hx 2
  have hfx3 := blk_frozen hx 3
  have hfx4 := blk_frozen hx 4
  clear hx
  have hm := HM1.out
  have hcm0 := (blk_cell hm 0).trans rfl
  have hcm1 := (blk_cell hm 1).trans rfl
  have hcm2 := (blk_cell hm 2).trans rfl
  have hcm3 := (blk_cell hm 3).trans rfl
  have hcm4 := (blk_cell hm 4).trans rfl
  have hcm5 := (blk_cell hm 5).trans rfl
  clear hm
  have hz := HZ1.out
  have hcz0 := (blk_cell hz 0).trans rfl
  have hcz1 := (blk_cell hz 1).trans rfl
  have hcz2 := (blk_cell hz 2).trans rfl
  have hcz3 := (blk_cell hz 3).trans rfl
  have hcz4 := (blk_cell hz 4).trans rfl
  have hfz0 := blk_frozen hz 0
  have hfz1 := blk_frozen hz 1
  have hfz2 := blk_frozen hz 2
  have hfz3 := blk_frozen hz 3
  have hfz4 := blk_frozen hz 4
  clear hz
  go_wp2_with fail
  refine (commit_time.calls m5 true _ HT.out).mono ?_
  rintro e' w2 ⟨rfl, hd⟩
  clear hcx0 hfx0 hcx1 hfx1 hcx2 hfx2 hcx3 hfx3 hcx4 hfx4
  clear hcm0 hcm1 hcm2 hcm3 hcm4 hcm5
  clear hcz0 hfz0 hcz1 hfz1 hcz2 hfz2 hcz3 hfz3 hcz4 hfz4
  have HX2 := Aside0.mk (blk_below HX1.out hd.below)
  have HM2 := Aside0.mk (blk_below HM1.out hd.below)
  have HZ2 := Aside0.mk (blk_below HZ1.out hd.below)
  have HB2 := Aside0.mk (below_then HB1.out HB1.out.size hd.below)
  clear HX1 HM1 HZ1 HB1
  clear hd
  have hx := HX2.out
  have hcx0 := (blk_cell hx 0).trans rfl
  have hcx1 := (blk_cell hx 1).trans rfl
  have hcx2 := (blk_cell hx 2).trans rfl
  have hcx3 := (blk_cell hx 3).trans rfl
  have hcx4 := (blk_cell hx 4).trans rfl
  have hfx0 := blk_frozen hx 0
  have hfx1 := blk_frozen hx 1
  have hfx2 := blk_frozen hx 2
  have hfx3 := blk_frozen hx 3
  have hfx4 := blk_frozen hx 4
  clear hx
  have hm := HM2.out
  have hcm0 := (blk_cell hm 0).trans rfl
  have hcm1 := (blk_cell hm 1).trans rfl
  have hcm2 := (blk_cell hm 2).trans rfl
  have hcm3 := (blk_cell hm 3).trans rfl
  have hcm4 := (blk_cell hm 4).trans rfl
  have hcm5 := (blk_cell hm 5).trans rfl
  clear hm
  have hz := HZ2.out
  have hcz0 := (blk_cell hz 0).trans rfl
  have hcz1 := (blk_cell hz 1).trans rfl
  have hcz2 := (blk_cell hz 2).trans rfl
  have hcz3 := (blk_cell hz 3).trans rfl
  have hcz4 := (blk_cell hz 4).trans rfl
  have hfz0 := blk_frozen hz 0
  have hfz1 := blk_frozen hz 1
  have hfz2 := blk_frozen hz 2
  have hfz3 := blk_frozen hz 3
  have hfz4 := blk_frozen hz 4
  clear hz
  go_wp2_with fail
  have HC2 := Aside0.mk (Kd.C_below HR.out HB2.out)
  refine (commit_begin_calls e s st ap _ c l w2 HC2.out HC.out HLB.out).mono ?_
  rintro e' w3 ⟨g, v, rfl, hI, hR, hg, hb⟩
  obtain ⟨A3, c3, rfl⟩ := Kd.R_slice hR
  have HI3 := Aside0.mk hI
  have HQ3 := Aside0.mk (Kd.R_lower hR HB2.out.size)
  have HG := Aside0.mk (Nat.le_trans HB2.out.size hg)
  clear hcx0 hfx0 hcx1 hfx1 hcx2 hfx2 hcx3 hfx3 hcx4 hfx4
  clear hcm0 hcm1 hcm2 hcm3 hcm4 hcm5
  clear hcz0 hfz0 hcz1 hfz1 hcz2 hfz2 hcz3 hfz3 hcz4 hfz4
  have HX3 := Aside0.mk (blk_below HX2.out hb)
  have HM3 := Aside0.mk (blk_below HM2.out hb)
  have HZ3 := Aside0.mk (blk_below HZ2.out hb)
  have HB3 := Aside0.mk (below_then HB2.out HB2.out.size hb)
  clear HX2 HM2 HZ2 HB2
  clear hI hR hg hb HC2 HC HR
  obtain ⟨hc0, hc1, hc2, hc3, hc4, hc5, hf0, hf1, hf2, hf3, hf4, hf5⟩ := HI3.out.cells
  have hm := HM3.out
  have hcm0 := (blk_cell hm 0).trans rfl
  have hcm1 := (blk_cell hm 1).trans rfl
  have hcm2 := (blk_cell hm 2).trans rfl
  have hcm3 := (blk_cell hm 3).trans rfl
  have hcm4 := (blk_cell hm 4).trans rfl
  have hcm5 := (blk_cell hm 5).trans rfl
  clear hm
  have hmk := @run_makeMap Try.prog
  obtain ⟨f51, hf51⟩ : ∃ v : Value, v = .func (.func 51) #[.pointer (some ⟨g, 0, none⟩)] #[] := ⟨_, rfl⟩
  obtain ⟨f52, hf52⟩ : ∃ v : Value, v = .func (.func 52) #[.pointer (some ⟨g, 0, none⟩)] #[] := ⟨_, rfl⟩
  obtain ⟨f53, hf53⟩ : ∃ v : Value, v = .func (.func 53) #[.pointer (some ⟨g, 0, none⟩)] #[] := ⟨_, rfl⟩
  have HF51 := Aside0.mk hf51
  have HF52 := Aside0.mk hf52
  have HF53 := Aside0.mk hf53
  clear hf51 hf52 hf53
  go_wp2_with (first | (refine wpList_insert_at _ rfl (.tmp 36) (.const (.int .i64 9)) (.tmp 38) 86 rfl Try.underlying86 Try.underlying3 w3.heap.size #[] 0 9 f51 rfl rfl (by rw [HF51.out]; rfl) (MapKept.heap_alloc _ _).1 rfl ?_; intro w4 hp4 hg4; have HP4 := Aside0.mk hp4; have HG4 := Aside0.mk hg4; clear hp4 hg4) | (refine wpList_insert_at _ rfl (.tmp 36) (.const (.int .i64 11)) (.tmp 40) 86 rfl Try.underlying86 Try.underlying3 w3.heap.size #[⟨.int .i64 9, f51, 0⟩] 1 11 f52 rfl rfl (by rw [HF52.out]; rfl) HP4.out rfl ?_; intro w5 hp5 hg5; have HP5 := Aside0.mk hp5; have HG5 := Aside0.mk (HG4.out.trans hg5); clear hp5 hg5 HP4 HG4) | (refine wpList_insert_at _ rfl (.tmp 36) (.const (.int .i64 12)) (.tmp 42) 86 rfl Try.underlying86 Try.underlying3 w3.heap.size #[⟨.int .i64 9, f51, 0⟩, ⟨.int .i64 11, f52, 1⟩] 2 12 f53 rfl rfl (by rw [HF53.out]; rfl) HP5.out rfl ?_; intro w6 hp6 hg6; have hb6 := map_below (HG5.out.trans hg6); clear hc0 hc1 hc2 hc3 hc4 hc5 hf0 hf1 hf2 hf3 hf4 hf5; clear hcm0 hcm1 hcm2 hcm3 hcm4 hcm5; have HX6 := Aside0.mk (blk_below HX3.out hb6); have HM6 := Aside0.mk (blk_below HM3.out hb6); have HZ6 := Aside0.mk (blk_below HZ3.out hb6); have HB6 := Aside0.mk (below_then HB3.out HB3.out.size hb6); have HI6 := Aside0.mk (HI3.out.below hb6); have HQ6 := Aside0.mk (Kd.R_below HQ3.out hb6); clear HX3 HM3 HZ3 HB3 HI3 HQ3; have hm := HM6.out; have hcm0 := (blk_cell hm 0).trans rfl; have hcm1 := (blk_cell hm 1).trans rfl; have hcm2 := (blk_cell hm 2).trans rfl; have hcm3 := (blk_cell hm 3).trans rfl; have hcm4 := (blk_cell hm 4).trans rfl; have hcm5 := (blk_cell hm 5).trans rfl; clear hm; have hx := HX6.out; have hcx0 := (blk_cell hx 0).trans rfl; have hcx1 := (blk_cell hx 1).trans rfl; have hcx2 := (blk_cell hx 2).trans rfl; have hcx3 := (blk_cell hx 3).trans rfl; have hcx4 := (blk_cell hx 4).trans rfl; have hfx0 := blk_frozen hx 0; have hfx1 := blk_frozen hx 1; have hfx2 := blk_frozen hx 2; have hfx3 := blk_frozen hx 3; have hfx4 := blk_frozen hx 4; clear hx; obtain ⟨hc0, hc1, hc2, hc3, hc4, hc5, hf0, hf1, hf2, hf3, hf4, hf5⟩ := HI6.out.cells; have hlk := look_int (P := Try.prog) Try.underlying86 Try.underlying3 hp6 m0 0 f51 (by rw [HK.out]; rfl) true; rw [HF51.out] at hlk; clear hp6 hg6 HP5 HG5 hb6))
  have HR6 := Aside0.mk (Kd.R_nil k53 53 w6 w.heap.size (fun _ => True))
  have HQ6' := Aside0.mk (Kd.Q_of_R HQ6.out)
  clear HQ6
  have HQ6 := HQ6'
  clear HQ6'
  refine (stored_yes k g e s st ap m4 A3 c3 l _ [] (fun _ => True) w w6 HI6.out HG.out HB6.out HQ6.out HR6.out (by simp) (fun _ _ => trivial) H4.out H5.out).mono ?_
  rintro e' w7 ⟨rfl, A7, c7, u7, hI7, hQ7, hR7, hB7, hK7⟩
  have HI7 := Aside0.mk hI7
  have HQ7 := Aside0.mk hQ7
  have HR7 := Aside0.mk hR7
  have HB7 := Aside0.mk hB7
  have HZ7 := Aside0.mk (hK7 _ _ _ (by decide) HZ6.out)
  clear hc0 hc1 hc2 hc3 hc4 hc5 hf0 hf1 hf2 hf3 hf4 hf5
  clear hI7 hQ7 hR7 hB7 hK7 HI6 HQ6 HR6 HB6 HZ6
  obtain ⟨hc0, hc1, hc2, hc3, hc4, hc5, hf0, hf1, hf2, hf3, hf4, hf5⟩ := HI7.out.cells
  go_wp2
  clear hc0 hc1 hc2 hc3 hc4 hc5 hf0 hf1 hf2 hf3 hf4 hf5
  refine start_ (n := 10) (S := fun w' => w'.cell? ⟨g, 0, none⟩ = some (.int .i64 e) ∧ w'.cell? ⟨g, 1, none⟩ = some (.int .i64 s) ∧ w'.cell? ⟨g, 2, none⟩ = some (.slice A7 l.length c7) ∧ w'.cell? ⟨g, 3, none⟩ = some (.int .i64 m4) ∧ w'.cell? ⟨g, 4, none⟩ = some (.int .i64 ap) ∧ w'.cell? ⟨g, 5, none⟩ = some (u7) ∧ Aside0 (StC w' g e s (.slice A7 l.length c7) m4 ap (u7)) ∧ Aside0 (Kd.Q (Kd.int .i64) 3 w' w.heap.size (fun _ => True) (.slice A7 l.length c7) l) ∧ Aside0 (Kd.R k53 53 w' w.heap.size (fun _ => True) (u7) ([] ++ [(⟨10, 0, s, m4, 0, e, (), ()⟩ : S53)])) ∧ Aside0 (Below w.heap.size w w')) (ds := []) #[false, false, false, false, false, false, false, false, false, false] (by kernel_rfl) rfl rfl ⟨HI7.out.drew.cells.1, HI7.out.drew.cells.2.1, HI7.out.drew.cells.2.2.1, HI7.out.drew.cells.2.2.2.1, HI7.out.drew.cells.2.2.2.2.1, HI7.out.drew.cells.2.2.2.2.2.1, ⟨HI7.out.drew⟩, ⟨Kd.Q_drew HQ7.out⟩, ⟨Kd.R_drew HR7.out⟩, ⟨below_drew1 HB7.out⟩⟩ (fun hHeld => ?_)
  refine pure_ (i := 0) (N := some 81) (v := ?_) (a' := ?_) #[true, false, false, false, false, false, false, false, false, false] rfl rfl (by kernel_rfl) (fun _ _ _ h => h) (Or.inl ⟨by rfl, ?_⟩) ?_ ?_
  rotate_left
  · intro w'
    go_simp
    with_reducible rfl
  rotate_left
  · simp only [Act.put, List.setIfInBounds_toArray, List.set_cons_zero, List.set_cons_succ, i64_w, i32_w]
    rfl
  refine pure_ (i := 1) (N := some 82) (v := ?_) (a' := ?_) #[true, true, false, false, false, false, false, false, false, false] rfl rfl (by kernel_rfl) (fun _ _ _ h => h) (Or.inl ⟨by rfl, ?_⟩) ?_ ?_
  rotate_left
  · intro w'
    go_simp
    with_reducible rfl
  rotate_left
  · simp only [Act.put, List.setIfInBounds_toArray, List.set_cons_zero, List.set_cons_succ, i64_w, i32_w]
    rfl
  refine pure_ (i := 2) (N := some 83) (v := ?_) (a' := ?_) #[true, true, true, false, false, false, false, false, false, false] rfl rfl (by kernel_rfl) (fun _ _ _ h => h) (Or.inl ⟨by rfl, ?_⟩) ?_ ?_
  rotate_left
  · intro w'
    go_simp
    with_reducible rfl
  rotate_left
  · simp only [Act.put, List.setIfInBounds_toArray, List.set_cons_zero, List.set_cons_succ, i64_w, i32_w]
    rfl
  refine pure_ (i := 4) (N := some 85) (v := ?_) (a' := ?_) #[true, true, true, false, true, false, false, false, false, false] rfl rfl (by kernel_rfl) (fun _ _ _ h => h) (Or.inl ⟨by rfl, ?_⟩) ?_ ?_
  rotate_left
  · intro w'
    go_simp
    with_reducible rfl
  rotate_left
  · simp only [Act.put, List.setIfInBounds_toArray, List.set_cons_zero, List.set_cons_succ, i64_w, i32_w]
    rfl
  refine pure_ (i := 5) (N := some 86) (v := ?_) (a' := ?_) #[true, true, true, false, true, true, false, false, false, false] rfl rfl (by kernel_rfl) (fun _ _ _ h => h) (Or.inl ⟨by rfl, ?_⟩) ?_ ?_
  rotate_left
  · intro w'
    go_simp
    with_reducible rfl
  rotate_left
  · simp only [Act.put, List.setIfInBounds_toArray, List.set_cons_zero, List.set_cons_succ, i64_w, i32_w]
    rfl
  refine pure_ (i := 6) (N := some 87) (v := ?_) (a' := ?_) #[true, true, true, false, true, true, true, false, false, false] rfl rfl (by kernel_rfl) (fun _ _ _ h => h) (Or.inl ⟨by rfl, ?_⟩) ?_ ?_
  rotate_left
  · intro w'
    go_simp
    with_reducible rfl
  rotate_left
  · simp only [Act.put, List.setIfInBounds_toArray, List.set_cons_zero, List.set_cons_succ, i64_w, i32_w]
    rfl
  refine take_ (i := 3) (N := some 84) (v := ?_) (a' := ?_) #[true, true, true, true, true, true, true, false, false, false] rfl rfl (by kernel_rfl) (fun _ _ _ h => h) (Or.inl ⟨by rfl, ?_⟩) hHeld ?_ ?_
  rotate_left
  · rintro w' ⟨s0, s1, s2, s3, s4, s5, s6, s7, s8, s9⟩
    go_simp
    with_reducible rfl
  rotate_left
  · simp only [Act.put, List.setIfInBounds_toArray, List.set_cons_zero, List.set_cons_succ, i64_w, i32_w]
    rfl
  refine take_ (i := 7) (N := some 88) (v := ?_) (a' := ?_) #[true, true, true, true, true, true, true, true, false, false] rfl rfl (by kernel_rfl) (fun _ _ _ h => h) (Or.inl ⟨by rfl, ?_⟩) hHeld ?_ ?_
  rotate_left
  · rintro w' ⟨s0, s1, s2, s3, s4, s5, s6, s7, s8, s9⟩
    go_simp
    with_reducible rfl
  rotate_left
  · simp only [Act.put, List.setIfInBounds_toArray, List.set_cons_zero, List.set_cons_succ, i64_w, i32_w]
    rfl
  refine one_ (i := 8) (N := none) #[true, true, true, true, true, true, true, true, true, false] rfl rfl (by kernel_rfl) (by decide) (fun K hK => ?_)
  clear hHeld
  have hz := HZ7.out
  have hcz0 := (blk_cell hz 0).trans rfl
  have hcz1 := (blk_cell hz 1).trans rfl
  have hcz2 := (blk_cell hz 2).trans rfl
  have hcz3 := (blk_cell hz 3).trans rfl
  have hcz4 := (blk_cell hz 4).trans rfl
  have hfz0 := blk_frozen hz 0
  have hfz1 := blk_frozen hz 1
  have hfz2 := blk_frozen hz 2
  have hfz3 := blk_frozen hz 3
  have hfz4 := blk_frozen hz 4
  clear hz
  refine skip_ (w1 := ?_) (by rfl) rfl ?_ ?_
  rotate_left
  · go_simp
    rfl
  have HK10 := Aside0.mk (kq_set5 (v0 := .int .i64 e) (v1 := .int .i64 s) (v2 := .slice A7 l.length c7) (v3 := .int .i64 m4) (v4 := .int .i64 ap) (Kq.refl (fun t => t ≠ 24) _) HZ7.out (fun h => h rfl))
  have HI10 := Aside0.mk (StC.drew (show StC _ g e s (.slice A7 l.length c7) m4 ap (u7) from HK10.out _ _ _ (by decide) HI7.out))
  have HQ10 := Aside0.mk (Kd.Q_drew (Q_kq HQ7.out HK10.out (by decide)))
  have HR10 := Aside0.mk (Kd.R_drew (R_kq HR7.out HK10.out (by decide)))
  have HB10 := Aside0.mk (below_drew1 (below_set5 (v0 := .int .i64 e) (v1 := .int .i64 s) (v2 := .slice A7 l.length c7) (v3 := .int .i64 m4) (v4 := .int .i64 ap) HB7.out hgz))
  clear HK10
  refine hK.out _ _ ⟨HI10.out.cells.1, HI10.out.cells.2.1, HI10.out.cells.2.2.1, HI10.out.cells.2.2.2.1, HI10.out.cells.2.2.2.2.1, HI10.out.cells.2.2.2.2.2.1, HI10, HQ10, HR10, HB10⟩ (fun hHeld => ?_)
  clear hK K
  refine pure_ (i := 9) (N := some 5) (v := ?_) (a' := ?_) #[true, true, true, true, true, true, true, true, true, true] rfl rfl (by kernel_rfl) (fun _ _ _ h => h) (Or.inl ⟨by rfl, ?_⟩) ?_ ?_
  rotate_left
  · intro w'
    go_simp
    with_reducible rfl
  rotate_left
  · simp only [Act.put, List.setIfInBounds_toArray, List.set_cons_zero, List.set_cons_succ, i64_w, i32_w]
    rfl
  refine done_ (by kernel_rfl) ?_
  obtain ⟨-, -, -, -, -, -, HI11, HQ11, HR11, HB11⟩ := hHeld
  go_wp2
  refine bodyPost_ret (results_ct rfl _ _ (w.heap.size + 1 + 1) 24 #[.int .i64 e, .int .i64 s, .slice A7 l.length c7, .int .i64 m4, .int .i64 ap] (0, 0) _ rfl (blk_put5 HZ7.out) Try.underlying24 rfl (by kernel_rfl)) rfl ?_
  exact ⟨_, _, rfl, HQ11.out, HR11.out, HB11.out⟩
set_option maxHeartbeats 16000000 in
set_option maxRecDepth 100000 in
theorem learn_applied_no (k : Nat) (e s st ap : Int) (A : Option Addr) (c : Nat) (l : List Int) (m0 m1 m2 m3 m4 m5 : Int) (q6 q7 : Value) (w : World) (hr : Kd.C (Kd.int .i64) w A l.length l) (hc : l.length ≤ c) (h : commit_CheckSource.f k e s l st ap = some 0) (h1 : m1 = s) (h2 : ¬ m5 < e) (ht : commit_time.f m5 = some true) (hlb : l.length ≤ 1000000) (hk : m0 = 11) (h3 : m5 = e) (at_ : Int) (h4 : slices_Index_int_int.f k l m4 = some at_) (h5 : at_ < 0) :
    Calls Try.prog 29 #[.agg #[.int .i64 e, .int .i64 s, .slice A l.length c, .int .i64 st, .int .i64 ap], .agg #[.int .i64 m0, .int .i64 m1, .int .i64 m2, .int .i64 m3, .int .i64 m4, .int .i64 m5, q6, q7]] w fun e' w' => ∃ v2_ v5_ : Value, e' = .returned (.tuple #[.agg #[.int .i64 e, .int .i64 s, v2_, .int .i64 st, .int .i64 ap], v5_]) ∧ Kd.Q (Kd.int .i64) 3 w' w.heap.size (fun _ => True) v2_ l ∧ Kd.R k53 53 w' w.heap.size (fun _ => True) v5_ ([] : List S53) ∧ Below w.heap.size w w' := by
  have hu79 := Try.underlying79
  have hu24 := Try.underlying24
  have hu53 := Try.underlying53
  have HR := Aside0.mk hr
  have HC := Aside0.mk hc
  clear hr hc
  have hn1 : (m1 != s) = false := by rw [h1]; exact bne_self_eq_false s
  have hn2 : decide (m5 < e) = false := decide_eq_false h2
  have H := Aside0.mk h
  clear h
  have H1 := Aside0.mk h1
  clear h1
  have H2 := Aside0.mk h2
  clear h2
  have HT := Aside0.mk ht
  clear ht
  have HLB := Aside0.mk hlb
  clear hlb
  have hgt : decide (e < m5) = false := decide_eq_false (by omega)
  have H3 := Aside0.mk h3
  clear h3
  have HK := Aside0.mk hk
  clear hk
  have H4 := Aside0.mk h4
  clear h4
  have H5 := Aside0.mk h5
  clear h5
  have hgz : w.heap.size ≤ w.heap.size + 1 + 1 := by omega
  go_enter Try.func29, Try.ntmps29
  go_wp2_with fail
  have hW := three_alloc w #[.int .i64 e, .int .i64 s, .slice A l.length c, .int .i64 st, .int .i64 ap] #[.int .i64 m0, .int .i64 m1, .int .i64 m2, .int .i64 m3, .int .i64 m4, .int .i64 m5, q6, q7] #[.int .i64 0, .int .i64 0, .slice none 0 0, .int .i64 0, .int .i64 0]
  generalize ((w.alloc (.cells #[.int .i64 e, .int .i64 s, .slice A l.length c, .int .i64 st, .int .i64 ap] 24)).alloc (.cells #[.int .i64 m0, .int .i64 m1, .int .i64 m2, .int .i64 m3, .int .i64 m4, .int .i64 m5, q6, q7] 53)).alloc (.cells #[.int .i64 0, .int .i64 0, .slice none 0 0, .int .i64 0, .int .i64 0] 24) = W at hW ⊢
  refine (commit_CheckSource.calls k e s A c l st ap 0 W (Kd.C_below HR.out hW.2.2.2) HC.out H.out).mono ?_
  rintro e' w1 ⟨rfl, hb⟩
  have HX1 := Aside0.mk (blk_below hW.1 hb)
  have HM1 := Aside0.mk (blk_below hW.2.1 hb)
  have HZ1 := Aside0.mk (blk_below hW.2.2.1 hb)
  have HB1 := Aside0.mk (below_then hW.2.2.2 hW.2.2.2.size hb)
  clear hb hW
  have hx := HX1.out
  have hcx0 := (blk_cell hx 0).trans rfl
  have hcx1 := (blk_cell hx 1).trans rfl
  have hcx2 := (blk_cell hx 2).trans rfl
  have hcx3 := (blk_cell hx 3).trans rfl
  have hcx4 := (blk_cell hx 4).trans rfl
  have hfx0 := blk_frozen hx 0
  have hfx1 := blk_frozen hx 1
  have hfx2 := blk_frozen hx 2
  have hfx3 := blk_frozen hx 3
  have hfx4 := blk_frozen hx 4
  clear hx
  have hm := HM1.out
  have hcm0 := (blk_cell hm 0).trans rfl
  have hcm1 := (blk_cell hm 1).trans rfl
  have hcm2 := (blk_cell hm 2).trans rfl
  have hcm3 := (blk_cell hm 3).trans rfl
  have hcm4 := (blk_cell hm 4).trans rfl
  have hcm5 := (blk_cell hm 5).trans rfl
  clear hm
  have hz := HZ1.out
  have hcz0 := (blk_cell hz 0).trans rfl
  have hcz1 := (blk_cell hz 1).trans rfl
  have hcz2 := (blk_cell hz 2).trans rfl
  have hcz3 := (blk_cell hz 3).trans rfl
  have hcz4 := (blk_cell hz 4).trans rfl
  have hfz0 := blk_frozen hz 0
  have hfz1 := blk_frozen hz 1
  have hfz2 := blk_frozen hz 2
  have hfz3 := blk_frozen hz 3
  have hfz4 := blk_frozen hz 4
  clear hz
  go_wp2_with fail
  refine (commit_time.calls m5 true _ HT.out).mono ?_
  rintro e' w2 ⟨rfl, hd⟩
  clear hcx0 hfx0 hcx1 hfx1 hcx2 hfx2 hcx3 hfx3 hcx4 hfx4
  clear hcm0 hcm1 hcm2 hcm3 hcm4 hcm5
  clear hcz0 hfz0 hcz1 hfz1 hcz2 hfz2 hcz3 hfz3 hcz4 hfz4
  have HX2 := Aside0.mk (blk_below HX1.out hd.below)
  have HM2 := Aside0.mk (blk_below HM1.out hd.below)
  have HZ2 := Aside0.mk (blk_below HZ1.out hd.below)
  have HB2 := Aside0.mk (below_then HB1.out HB1.out.size hd.below)
  clear HX1 HM1 HZ1 HB1
  clear hd
  have hx := HX2.out
  have hcx0 := (blk_cell hx 0).trans rfl
  have hcx1 := (blk_cell hx 1).trans rfl
  have hcx2 := (blk_cell hx 2).trans rfl
  have hcx3 := (blk_cell hx 3).trans rfl
  have hcx4 := (blk_cell hx 4).trans rfl
  have hfx0 := blk_frozen hx 0
  have hfx1 := blk_frozen hx 1
  have hfx2 := blk_frozen hx 2
  have hfx3 := blk_frozen hx 3
  have hfx4 := blk_frozen hx 4
  clear hx
  have hm := HM2.out
  have hcm0 := (blk_cell hm 0).trans rfl
  have hcm1 := (blk_cell hm 1).trans rfl
  have hcm2 := (blk_cell hm 2).trans rfl
  have hcm3 := (blk_cell hm 3).trans rfl
  have hcm4 := (blk_cell hm 4).trans rfl
  have hcm5 := (blk_cell hm 5).trans rfl
  clear hm
  have hz := HZ2.out
  have hcz0 := (blk_cell hz 0).trans rfl
  have hcz1 := (blk_cell hz 1).trans rfl
  have hcz2 := (blk_cell hz 2).trans rfl
  have hcz3 := (blk_cell hz 3).trans rfl
  have hcz4 := (blk_cell hz 4).trans rfl
  have hfz0 := blk_frozen hz 0
  have hfz1 := blk_frozen hz 1
  have hfz2 := blk_frozen hz 2
  have hfz3 := blk_frozen hz 3
  have hfz4 := blk_frozen hz 4
  clear hz
  go_wp2_with fail
  have HC2 := Aside0.mk (Kd.C_below HR.out HB2.out)
  refine (commit_begin_calls e s st ap _ c l w2 HC2.out HC.out HLB.out).mono ?_
  rintro e' w3 ⟨g, v, rfl, hI, hR, hg, hb⟩
  obtain ⟨A3, c3, rfl⟩ := Kd.R_slice hR
  have HI3 := Aside0.mk hI
  have HQ3 := Aside0.mk (Kd.R_lower hR HB2.out.size)
  have HG := Aside0.mk (Nat.le_trans HB2.out.size hg)
  clear hcx0 hfx0 hcx1 hfx1 hcx2 hfx2 hcx3 hfx3 hcx4 hfx4
  clear hcm0 hcm1 hcm2 hcm3 hcm4 hcm5
  clear hcz0 hfz0 hcz1 hfz1 hcz2 hfz2 hcz3 hfz3 hcz4 hfz4
  have HX3 := Aside0.mk (blk_below HX2.out hb)
  have HM3 := Aside0.mk (blk_below HM2.out hb)
  have HZ3 := Aside0.mk (blk_below HZ2.out hb)
  have HB3 := Aside0.mk (below_then HB2.out HB2.out.size hb)
  clear HX2 HM2 HZ2 HB2
  clear hI hR hg hb HC2 HC HR
  obtain ⟨hc0, hc1, hc2, hc3, hc4, hc5, hf0, hf1, hf2, hf3, hf4, hf5⟩ := HI3.out.cells
  have hm := HM3.out
  have hcm0 := (blk_cell hm 0).trans rfl
  have hcm1 := (blk_cell hm 1).trans rfl
  have hcm2 := (blk_cell hm 2).trans rfl
  have hcm3 := (blk_cell hm 3).trans rfl
  have hcm4 := (blk_cell hm 4).trans rfl
  have hcm5 := (blk_cell hm 5).trans rfl
  clear hm
  have hmk := @run_makeMap Try.prog
  obtain ⟨f51, hf51⟩ : ∃ v : Value, v = .func (.func 51) #[.pointer (some ⟨g, 0, none⟩)] #[] := ⟨_, rfl⟩
  obtain ⟨f52, hf52⟩ : ∃ v : Value, v = .func (.func 52) #[.pointer (some ⟨g, 0, none⟩)] #[] := ⟨_, rfl⟩
  obtain ⟨f53, hf53⟩ : ∃ v : Value, v = .func (.func 53) #[.pointer (some ⟨g, 0, none⟩)] #[] := ⟨_, rfl⟩
  have HF51 := Aside0.mk hf51
  have HF52 := Aside0.mk hf52
  have HF53 := Aside0.mk hf53
  clear hf51 hf52 hf53
  go_wp2_with (first | (refine wpList_insert_at _ rfl (.tmp 36) (.const (.int .i64 9)) (.tmp 38) 86 rfl Try.underlying86 Try.underlying3 w3.heap.size #[] 0 9 f51 rfl rfl (by rw [HF51.out]; rfl) (MapKept.heap_alloc _ _).1 rfl ?_; intro w4 hp4 hg4; have HP4 := Aside0.mk hp4; have HG4 := Aside0.mk hg4; clear hp4 hg4) | (refine wpList_insert_at _ rfl (.tmp 36) (.const (.int .i64 11)) (.tmp 40) 86 rfl Try.underlying86 Try.underlying3 w3.heap.size #[⟨.int .i64 9, f51, 0⟩] 1 11 f52 rfl rfl (by rw [HF52.out]; rfl) HP4.out rfl ?_; intro w5 hp5 hg5; have HP5 := Aside0.mk hp5; have HG5 := Aside0.mk (HG4.out.trans hg5); clear hp5 hg5 HP4 HG4) | (refine wpList_insert_at _ rfl (.tmp 36) (.const (.int .i64 12)) (.tmp 42) 86 rfl Try.underlying86 Try.underlying3 w3.heap.size #[⟨.int .i64 9, f51, 0⟩, ⟨.int .i64 11, f52, 1⟩] 2 12 f53 rfl rfl (by rw [HF53.out]; rfl) HP5.out rfl ?_; intro w6 hp6 hg6; have hb6 := map_below (HG5.out.trans hg6); clear hc0 hc1 hc2 hc3 hc4 hc5 hf0 hf1 hf2 hf3 hf4 hf5; clear hcm0 hcm1 hcm2 hcm3 hcm4 hcm5; have HX6 := Aside0.mk (blk_below HX3.out hb6); have HM6 := Aside0.mk (blk_below HM3.out hb6); have HZ6 := Aside0.mk (blk_below HZ3.out hb6); have HB6 := Aside0.mk (below_then HB3.out HB3.out.size hb6); have HI6 := Aside0.mk (HI3.out.below hb6); have HQ6 := Aside0.mk (Kd.R_below HQ3.out hb6); clear HX3 HM3 HZ3 HB3 HI3 HQ3; have hm := HM6.out; have hcm0 := (blk_cell hm 0).trans rfl; have hcm1 := (blk_cell hm 1).trans rfl; have hcm2 := (blk_cell hm 2).trans rfl; have hcm3 := (blk_cell hm 3).trans rfl; have hcm4 := (blk_cell hm 4).trans rfl; have hcm5 := (blk_cell hm 5).trans rfl; clear hm; have hx := HX6.out; have hcx0 := (blk_cell hx 0).trans rfl; have hcx1 := (blk_cell hx 1).trans rfl; have hcx2 := (blk_cell hx 2).trans rfl; have hcx3 := (blk_cell hx 3).trans rfl; have hcx4 := (blk_cell hx 4).trans rfl; have hfx0 := blk_frozen hx 0; have hfx1 := blk_frozen hx 1; have hfx2 := blk_frozen hx 2; have hfx3 := blk_frozen hx 3; have hfx4 := blk_frozen hx 4; clear hx; obtain ⟨hc0, hc1, hc2, hc3, hc4, hc5, hf0, hf1, hf2, hf3, hf4, hf5⟩ := HI6.out.cells; have hlk := look_int (P := Try.prog) Try.underlying86 Try.underlying3 hp6 m0 1 f52 (by rw [HK.out]; rfl) true; rw [HF52.out] at hlk; clear hp6 hg6 HP5 HG5 hb6))
  have HR6 := Aside0.mk (Kd.R_nil k53 53 w6 w.heap.size (fun _ => True))
  have HQ6' := Aside0.mk (Kd.Q_of_R HQ6.out)
  clear HQ6
  have HQ6 := HQ6'
  clear HQ6'
  refine (applied_no k g e s st ap m4 at_ A3 c3 l _ [] (fun _ => True) w w6 HI6.out HB6.out HQ6.out HR6.out H4.out H5.out).mono ?_
  rintro e' w7 ⟨rfl, A7, c7, u7, hI7, hQ7, hR7, hB7, hK7⟩
  have HI7 := Aside0.mk hI7
  have HQ7 := Aside0.mk hQ7
  have HR7 := Aside0.mk hR7
  have HB7 := Aside0.mk hB7
  have HZ7 := Aside0.mk (hK7 _ _ _ (by decide) HZ6.out)
  clear hc0 hc1 hc2 hc3 hc4 hc5 hf0 hf1 hf2 hf3 hf4 hf5
  clear hI7 hQ7 hR7 hB7 hK7 HI6 HQ6 HR6 HB6 HZ6
  obtain ⟨hc0, hc1, hc2, hc3, hc4, hc5, hf0, hf1, hf2, hf3, hf4, hf5⟩ := HI7.out.cells
  go_wp2
  clear hc0 hc1 hc2 hc3 hc4 hc5 hf0 hf1 hf2 hf3 hf4 hf5
  refine start_ (n := 10) (S := fun w' => w'.cell? ⟨g, 0, none⟩ = some (.int .i64 e) ∧ w'.cell? ⟨g, 1, none⟩ = some (.int .i64 s) ∧ w'.cell? ⟨g, 2, none⟩ = some (.slice A7 l.length c7) ∧ w'.cell? ⟨g, 3, none⟩ = some (.int .i64 st) ∧ w'.cell? ⟨g, 4, none⟩ = some (.int .i64 ap) ∧ w'.cell? ⟨g, 5, none⟩ = some (u7) ∧ Aside0 (StC w' g e s (.slice A7 l.length c7) st ap (u7)) ∧ Aside0 (Kd.Q (Kd.int .i64) 3 w' w.heap.size (fun _ => True) (.slice A7 l.length c7) l) ∧ Aside0 (Kd.R k53 53 w' w.heap.size (fun _ => True) (u7) ([] : List S53)) ∧ Aside0 (Below w.heap.size w w')) (ds := []) #[false, false, false, false, false, false, false, false, false, false] (by kernel_rfl) rfl rfl ⟨HI7.out.drew.cells.1, HI7.out.drew.cells.2.1, HI7.out.drew.cells.2.2.1, HI7.out.drew.cells.2.2.2.1, HI7.out.drew.cells.2.2.2.2.1, HI7.out.drew.cells.2.2.2.2.2.1, ⟨HI7.out.drew⟩, ⟨Kd.Q_drew HQ7.out⟩, ⟨Kd.R_drew HR7.out⟩, ⟨below_drew1 HB7.out⟩⟩ (fun hHeld => ?_)
  refine pure_ (i := 0) (N := some 81) (v := ?_) (a' := ?_) #[true, false, false, false, false, false, false, false, false, false] rfl rfl (by kernel_rfl) (fun _ _ _ h => h) (Or.inl ⟨by rfl, ?_⟩) ?_ ?_
  rotate_left
  · intro w'
    go_simp
    with_reducible rfl
  rotate_left
  · simp only [Act.put, List.setIfInBounds_toArray, List.set_cons_zero, List.set_cons_succ, i64_w, i32_w]
    rfl
  refine pure_ (i := 1) (N := some 82) (v := ?_) (a' := ?_) #[true, true, false, false, false, false, false, false, false, false] rfl rfl (by kernel_rfl) (fun _ _ _ h => h) (Or.inl ⟨by rfl, ?_⟩) ?_ ?_
  rotate_left
  · intro w'
    go_simp
    with_reducible rfl
  rotate_left
  · simp only [Act.put, List.setIfInBounds_toArray, List.set_cons_zero, List.set_cons_succ, i64_w, i32_w]
    rfl
  refine pure_ (i := 2) (N := some 83) (v := ?_) (a' := ?_) #[true, true, true, false, false, false, false, false, false, false] rfl rfl (by kernel_rfl) (fun _ _ _ h => h) (Or.inl ⟨by rfl, ?_⟩) ?_ ?_
  rotate_left
  · intro w'
    go_simp
    with_reducible rfl
  rotate_left
  · simp only [Act.put, List.setIfInBounds_toArray, List.set_cons_zero, List.set_cons_succ, i64_w, i32_w]
    rfl
  refine pure_ (i := 4) (N := some 85) (v := ?_) (a' := ?_) #[true, true, true, false, true, false, false, false, false, false] rfl rfl (by kernel_rfl) (fun _ _ _ h => h) (Or.inl ⟨by rfl, ?_⟩) ?_ ?_
  rotate_left
  · intro w'
    go_simp
    with_reducible rfl
  rotate_left
  · simp only [Act.put, List.setIfInBounds_toArray, List.set_cons_zero, List.set_cons_succ, i64_w, i32_w]
    rfl
  refine pure_ (i := 5) (N := some 86) (v := ?_) (a' := ?_) #[true, true, true, false, true, true, false, false, false, false] rfl rfl (by kernel_rfl) (fun _ _ _ h => h) (Or.inl ⟨by rfl, ?_⟩) ?_ ?_
  rotate_left
  · intro w'
    go_simp
    with_reducible rfl
  rotate_left
  · simp only [Act.put, List.setIfInBounds_toArray, List.set_cons_zero, List.set_cons_succ, i64_w, i32_w]
    rfl
  refine pure_ (i := 6) (N := some 87) (v := ?_) (a' := ?_) #[true, true, true, false, true, true, true, false, false, false] rfl rfl (by kernel_rfl) (fun _ _ _ h => h) (Or.inl ⟨by rfl, ?_⟩) ?_ ?_
  rotate_left
  · intro w'
    go_simp
    with_reducible rfl
  rotate_left
  · simp only [Act.put, List.setIfInBounds_toArray, List.set_cons_zero, List.set_cons_succ, i64_w, i32_w]
    rfl
  refine take_ (i := 3) (N := some 84) (v := ?_) (a' := ?_) #[true, true, true, true, true, true, true, false, false, false] rfl rfl (by kernel_rfl) (fun _ _ _ h => h) (Or.inl ⟨by rfl, ?_⟩) hHeld ?_ ?_
  rotate_left
  · rintro w' ⟨s0, s1, s2, s3, s4, s5, s6, s7, s8, s9⟩
    go_simp
    with_reducible rfl
  rotate_left
  · simp only [Act.put, List.setIfInBounds_toArray, List.set_cons_zero, List.set_cons_succ, i64_w, i32_w]
    rfl
  refine take_ (i := 7) (N := some 88) (v := ?_) (a' := ?_) #[true, true, true, true, true, true, true, true, false, false] rfl rfl (by kernel_rfl) (fun _ _ _ h => h) (Or.inl ⟨by rfl, ?_⟩) hHeld ?_ ?_
  rotate_left
  · rintro w' ⟨s0, s1, s2, s3, s4, s5, s6, s7, s8, s9⟩
    go_simp
    with_reducible rfl
  rotate_left
  · simp only [Act.put, List.setIfInBounds_toArray, List.set_cons_zero, List.set_cons_succ, i64_w, i32_w]
    rfl
  refine one_ (i := 8) (N := none) #[true, true, true, true, true, true, true, true, true, false] rfl rfl (by kernel_rfl) (by decide) (fun K hK => ?_)
  clear hHeld
  have hz := HZ7.out
  have hcz0 := (blk_cell hz 0).trans rfl
  have hcz1 := (blk_cell hz 1).trans rfl
  have hcz2 := (blk_cell hz 2).trans rfl
  have hcz3 := (blk_cell hz 3).trans rfl
  have hcz4 := (blk_cell hz 4).trans rfl
  have hfz0 := blk_frozen hz 0
  have hfz1 := blk_frozen hz 1
  have hfz2 := blk_frozen hz 2
  have hfz3 := blk_frozen hz 3
  have hfz4 := blk_frozen hz 4
  clear hz
  refine skip_ (w1 := ?_) (by rfl) rfl ?_ ?_
  rotate_left
  · go_simp
    rfl
  have HK10 := Aside0.mk (kq_set5 (v0 := .int .i64 e) (v1 := .int .i64 s) (v2 := .slice A7 l.length c7) (v3 := .int .i64 st) (v4 := .int .i64 ap) (Kq.refl (fun t => t ≠ 24) _) HZ7.out (fun h => h rfl))
  have HI10 := Aside0.mk (StC.drew (show StC _ g e s (.slice A7 l.length c7) st ap (u7) from HK10.out _ _ _ (by decide) HI7.out))
  have HQ10 := Aside0.mk (Kd.Q_drew (Q_kq HQ7.out HK10.out (by decide)))
  have HR10 := Aside0.mk (Kd.R_drew (R_kq HR7.out HK10.out (by decide)))
  have HB10 := Aside0.mk (below_drew1 (below_set5 (v0 := .int .i64 e) (v1 := .int .i64 s) (v2 := .slice A7 l.length c7) (v3 := .int .i64 st) (v4 := .int .i64 ap) HB7.out hgz))
  clear HK10
  refine hK.out _ _ ⟨HI10.out.cells.1, HI10.out.cells.2.1, HI10.out.cells.2.2.1, HI10.out.cells.2.2.2.1, HI10.out.cells.2.2.2.2.1, HI10.out.cells.2.2.2.2.2.1, HI10, HQ10, HR10, HB10⟩ (fun hHeld => ?_)
  clear hK K
  refine pure_ (i := 9) (N := some 5) (v := ?_) (a' := ?_) #[true, true, true, true, true, true, true, true, true, true] rfl rfl (by kernel_rfl) (fun _ _ _ h => h) (Or.inl ⟨by rfl, ?_⟩) ?_ ?_
  rotate_left
  · intro w'
    go_simp
    with_reducible rfl
  rotate_left
  · simp only [Act.put, List.setIfInBounds_toArray, List.set_cons_zero, List.set_cons_succ, i64_w, i32_w]
    rfl
  refine done_ (by kernel_rfl) ?_
  obtain ⟨-, -, -, -, -, -, HI11, HQ11, HR11, HB11⟩ := hHeld
  go_wp2
  refine bodyPost_ret (results_ct rfl _ _ (w.heap.size + 1 + 1) 24 #[.int .i64 e, .int .i64 s, .slice A7 l.length c7, .int .i64 st, .int .i64 ap] (0, 0) _ rfl (blk_put5 HZ7.out) Try.underlying24 rfl (by kernel_rfl)) rfl ?_
  exact ⟨_, _, rfl, HQ11.out, HR11.out, HB11.out⟩
set_option maxHeartbeats 16000000 in
set_option maxRecDepth 100000 in
theorem learn_applied_yes (k : Nat) (e s st ap : Int) (A : Option Addr) (c : Nat) (l : List Int) (m0 m1 m2 m3 m4 m5 : Int) (q6 q7 : Value) (w : World) (hr : Kd.C (Kd.int .i64) w A l.length l) (hc : l.length ≤ c) (h : commit_CheckSource.f k e s l st ap = some 0) (h1 : m1 = s) (h2 : ¬ m5 < e) (ht : commit_time.f m5 = some true) (hlb : l.length ≤ 1000000) (hk : m0 = 11) (h3 : m5 = e) (at_ mi : Int) (h4 : slices_Index_int_int.f k l m4 = some at_) (h5 : 0 ≤ at_) (h6 : at_ < l.length) (h7 : mi = if st < m4 then m4 else st) :
    Calls Try.prog 29 #[.agg #[.int .i64 e, .int .i64 s, .slice A l.length c, .int .i64 st, .int .i64 ap], .agg #[.int .i64 m0, .int .i64 m1, .int .i64 m2, .int .i64 m3, .int .i64 m4, .int .i64 m5, q6, q7]] w fun e' w' => ∃ v2_ v5_ : Value, e' = .returned (.tuple #[.agg #[.int .i64 e, .int .i64 s, v2_, .int .i64 mi, .int .i64 m4], v5_]) ∧ Kd.Q (Kd.int .i64) 3 w' w.heap.size (fun _ => True) v2_ (l.drop (at_ + 1).toNat) ∧ Kd.R k53 53 w' w.heap.size (fun _ => True) v5_ ([] : List S53) ∧ Below w.heap.size w w' := by
  have hu79 := Try.underlying79
  have hu24 := Try.underlying24
  have hu53 := Try.underlying53
  have HR := Aside0.mk hr
  have HC := Aside0.mk hc
  clear hr hc
  have hn1 : (m1 != s) = false := by rw [h1]; exact bne_self_eq_false s
  have hn2 : decide (m5 < e) = false := decide_eq_false h2
  have H := Aside0.mk h
  clear h
  have H1 := Aside0.mk h1
  clear h1
  have H2 := Aside0.mk h2
  clear h2
  have HT := Aside0.mk ht
  clear ht
  have HLB := Aside0.mk hlb
  clear hlb
  have hgt : decide (e < m5) = false := decide_eq_false (by omega)
  have H3 := Aside0.mk h3
  clear h3
  have HK := Aside0.mk hk
  clear hk
  have H4 := Aside0.mk h4
  clear h4
  have H5 := Aside0.mk h5
  clear h5
  have H6 := Aside0.mk h6
  clear h6
  have H7 := Aside0.mk h7
  clear h7
  have hgz : w.heap.size ≤ w.heap.size + 1 + 1 := by omega
  go_enter Try.func29, Try.ntmps29
  go_wp2_with fail
  have hW := three_alloc w #[.int .i64 e, .int .i64 s, .slice A l.length c, .int .i64 st, .int .i64 ap] #[.int .i64 m0, .int .i64 m1, .int .i64 m2, .int .i64 m3, .int .i64 m4, .int .i64 m5, q6, q7] #[.int .i64 0, .int .i64 0, .slice none 0 0, .int .i64 0, .int .i64 0]
  generalize ((w.alloc (.cells #[.int .i64 e, .int .i64 s, .slice A l.length c, .int .i64 st, .int .i64 ap] 24)).alloc (.cells #[.int .i64 m0, .int .i64 m1, .int .i64 m2, .int .i64 m3, .int .i64 m4, .int .i64 m5, q6, q7] 53)).alloc (.cells #[.int .i64 0, .int .i64 0, .slice none 0 0, .int .i64 0, .int .i64 0] 24) = W at hW ⊢
  refine (commit_CheckSource.calls k e s A c l st ap 0 W (Kd.C_below HR.out hW.2.2.2) HC.out H.out).mono ?_
  rintro e' w1 ⟨rfl, hb⟩
  have HX1 := Aside0.mk (blk_below hW.1 hb)
  have HM1 := Aside0.mk (blk_below hW.2.1 hb)
  have HZ1 := Aside0.mk (blk_below hW.2.2.1 hb)
  have HB1 := Aside0.mk (below_then hW.2.2.2 hW.2.2.2.size hb)
  clear hb hW
  have hx := HX1.out
  have hcx0 := (blk_cell hx 0).trans rfl
  have hcx1 := (blk_cell hx 1).trans rfl
  have hcx2 := (blk_cell hx 2).trans rfl
  have hcx3 := (blk_cell hx 3).trans rfl
  have hcx4 := (blk_cell hx 4).trans rfl
  have hfx0 := blk_frozen hx 0
  have hfx1 := blk_frozen hx 1
  have hfx2 := blk_frozen hx 2
  have hfx3 := blk_frozen hx 3
  have hfx4 := blk_frozen hx 4
  clear hx
  have hm := HM1.out
  have hcm0 := (blk_cell hm 0).trans rfl
  have hcm1 := (blk_cell hm 1).trans rfl
  have hcm2 := (blk_cell hm 2).trans rfl
  have hcm3 := (blk_cell hm 3).trans rfl
  have hcm4 := (blk_cell hm 4).trans rfl
  have hcm5 := (blk_cell hm 5).trans rfl
  clear hm
  have hz := HZ1.out
  have hcz0 := (blk_cell hz 0).trans rfl
  have hcz1 := (blk_cell hz 1).trans rfl
  have hcz2 := (blk_cell hz 2).trans rfl
  have hcz3 := (blk_cell hz 3).trans rfl
  have hcz4 := (blk_cell hz 4).trans rfl
  have hfz0 := blk_frozen hz 0
  have hfz1 := blk_frozen hz 1
  have hfz2 := blk_frozen hz 2
  have hfz3 := blk_frozen hz 3
  have hfz4 := blk_frozen hz 4
  clear hz
  go_wp2_with fail
  refine (commit_time.calls m5 true _ HT.out).mono ?_
  rintro e' w2 ⟨rfl, hd⟩
  clear hcx0 hfx0 hcx1 hfx1 hcx2 hfx2 hcx3 hfx3 hcx4 hfx4
  clear hcm0 hcm1 hcm2 hcm3 hcm4 hcm5
  clear hcz0 hfz0 hcz1 hfz1 hcz2 hfz2 hcz3 hfz3 hcz4 hfz4
  have HX2 := Aside0.mk (blk_below HX1.out hd.below)
  have HM2 := Aside0.mk (blk_below HM1.out hd.below)
  have HZ2 := Aside0.mk (blk_below HZ1.out hd.below)
  have HB2 := Aside0.mk (below_then HB1.out HB1.out.size hd.below)
  clear HX1 HM1 HZ1 HB1
  clear hd
  have hx := HX2.out
  have hcx0 := (blk_cell hx 0).trans rfl
  have hcx1 := (blk_cell hx 1).trans rfl
  have hcx2 := (blk_cell hx 2).trans rfl
  have hcx3 := (blk_cell hx 3).trans rfl
  have hcx4 := (blk_cell hx 4).trans rfl
  have hfx0 := blk_frozen hx 0
  have hfx1 := blk_frozen hx 1
  have hfx2 := blk_frozen hx 2
  have hfx3 := blk_frozen hx 3
  have hfx4 := blk_frozen hx 4
  clear hx
  have hm := HM2.out
  have hcm0 := (blk_cell hm 0).trans rfl
  have hcm1 := (blk_cell hm 1).trans rfl
  have hcm2 := (blk_cell hm 2).trans rfl
  have hcm3 := (blk_cell hm 3).trans rfl
  have hcm4 := (blk_cell hm 4).trans rfl
  have hcm5 := (blk_cell hm 5).trans rfl
  clear hm
  have hz := HZ2.out
  have hcz0 := (blk_cell hz 0).trans rfl
  have hcz1 := (blk_cell hz 1).trans rfl
  have hcz2 := (blk_cell hz 2).trans rfl
  have hcz3 := (blk_cell hz 3).trans rfl
  have hcz4 := (blk_cell hz 4).trans rfl
  have hfz0 := blk_frozen hz 0
  have hfz1 := blk_frozen hz 1
  have hfz2 := blk_frozen hz 2
  have hfz3 := blk_frozen hz 3
  have hfz4 := blk_frozen hz 4
  clear hz
  go_wp2_with fail
  have HC2 := Aside0.mk (Kd.C_below HR.out HB2.out)
  refine (commit_begin_calls e s st ap _ c l w2 HC2.out HC.out HLB.out).mono ?_
  rintro e' w3 ⟨g, v, rfl, hI, hR, hg, hb⟩
  obtain ⟨A3, c3, rfl⟩ := Kd.R_slice hR
  have HI3 := Aside0.mk hI
  have HQ3 := Aside0.mk (Kd.R_lower hR HB2.out.size)
  have HG := Aside0.mk (Nat.le_trans HB2.out.size hg)
  clear hcx0 hfx0 hcx1 hfx1 hcx2 hfx2 hcx3 hfx3 hcx4 hfx4
  clear hcm0 hcm1 hcm2 hcm3 hcm4 hcm5
  clear hcz0 hfz0 hcz1 hfz1 hcz2 hfz2 hcz3 hfz3 hcz4 hfz4
  have HX3 := Aside0.mk (blk_below HX2.out hb)
  have HM3 := Aside0.mk (blk_below HM2.out hb)
  have HZ3 := Aside0.mk (blk_below HZ2.out hb)
  have HB3 := Aside0.mk (below_then HB2.out HB2.out.size hb)
  clear HX2 HM2 HZ2 HB2
  clear hI hR hg hb HC2 HC HR
  obtain ⟨hc0, hc1, hc2, hc3, hc4, hc5, hf0, hf1, hf2, hf3, hf4, hf5⟩ := HI3.out.cells
  have hm := HM3.out
  have hcm0 := (blk_cell hm 0).trans rfl
  have hcm1 := (blk_cell hm 1).trans rfl
  have hcm2 := (blk_cell hm 2).trans rfl
  have hcm3 := (blk_cell hm 3).trans rfl
  have hcm4 := (blk_cell hm 4).trans rfl
  have hcm5 := (blk_cell hm 5).trans rfl
  clear hm
  have hmk := @run_makeMap Try.prog
  obtain ⟨f51, hf51⟩ : ∃ v : Value, v = .func (.func 51) #[.pointer (some ⟨g, 0, none⟩)] #[] := ⟨_, rfl⟩
  obtain ⟨f52, hf52⟩ : ∃ v : Value, v = .func (.func 52) #[.pointer (some ⟨g, 0, none⟩)] #[] := ⟨_, rfl⟩
  obtain ⟨f53, hf53⟩ : ∃ v : Value, v = .func (.func 53) #[.pointer (some ⟨g, 0, none⟩)] #[] := ⟨_, rfl⟩
  have HF51 := Aside0.mk hf51
  have HF52 := Aside0.mk hf52
  have HF53 := Aside0.mk hf53
  clear hf51 hf52 hf53
  go_wp2_with (first | (refine wpList_insert_at _ rfl (.tmp 36) (.const (.int .i64 9)) (.tmp 38) 86 rfl Try.underlying86 Try.underlying3 w3.heap.size #[] 0 9 f51 rfl rfl (by rw [HF51.out]; rfl) (MapKept.heap_alloc _ _).1 rfl ?_; intro w4 hp4 hg4; have HP4 := Aside0.mk hp4; have HG4 := Aside0.mk hg4; clear hp4 hg4) | (refine wpList_insert_at _ rfl (.tmp 36) (.const (.int .i64 11)) (.tmp 40) 86 rfl Try.underlying86 Try.underlying3 w3.heap.size #[⟨.int .i64 9, f51, 0⟩] 1 11 f52 rfl rfl (by rw [HF52.out]; rfl) HP4.out rfl ?_; intro w5 hp5 hg5; have HP5 := Aside0.mk hp5; have HG5 := Aside0.mk (HG4.out.trans hg5); clear hp5 hg5 HP4 HG4) | (refine wpList_insert_at _ rfl (.tmp 36) (.const (.int .i64 12)) (.tmp 42) 86 rfl Try.underlying86 Try.underlying3 w3.heap.size #[⟨.int .i64 9, f51, 0⟩, ⟨.int .i64 11, f52, 1⟩] 2 12 f53 rfl rfl (by rw [HF53.out]; rfl) HP5.out rfl ?_; intro w6 hp6 hg6; have hb6 := map_below (HG5.out.trans hg6); clear hc0 hc1 hc2 hc3 hc4 hc5 hf0 hf1 hf2 hf3 hf4 hf5; clear hcm0 hcm1 hcm2 hcm3 hcm4 hcm5; have HX6 := Aside0.mk (blk_below HX3.out hb6); have HM6 := Aside0.mk (blk_below HM3.out hb6); have HZ6 := Aside0.mk (blk_below HZ3.out hb6); have HB6 := Aside0.mk (below_then HB3.out HB3.out.size hb6); have HI6 := Aside0.mk (HI3.out.below hb6); have HQ6 := Aside0.mk (Kd.R_below HQ3.out hb6); clear HX3 HM3 HZ3 HB3 HI3 HQ3; have hm := HM6.out; have hcm0 := (blk_cell hm 0).trans rfl; have hcm1 := (blk_cell hm 1).trans rfl; have hcm2 := (blk_cell hm 2).trans rfl; have hcm3 := (blk_cell hm 3).trans rfl; have hcm4 := (blk_cell hm 4).trans rfl; have hcm5 := (blk_cell hm 5).trans rfl; clear hm; have hx := HX6.out; have hcx0 := (blk_cell hx 0).trans rfl; have hcx1 := (blk_cell hx 1).trans rfl; have hcx2 := (blk_cell hx 2).trans rfl; have hcx3 := (blk_cell hx 3).trans rfl; have hcx4 := (blk_cell hx 4).trans rfl; have hfx0 := blk_frozen hx 0; have hfx1 := blk_frozen hx 1; have hfx2 := blk_frozen hx 2; have hfx3 := blk_frozen hx 3; have hfx4 := blk_frozen hx 4; clear hx; obtain ⟨hc0, hc1, hc2, hc3, hc4, hc5, hf0, hf1, hf2, hf3, hf4, hf5⟩ := HI6.out.cells; have hlk := look_int (P := Try.prog) Try.underlying86 Try.underlying3 hp6 m0 1 f52 (by rw [HK.out]; rfl) true; rw [HF52.out] at hlk; clear hp6 hg6 HP5 HG5 hb6))
  have HR6 := Aside0.mk (Kd.R_nil k53 53 w6 w.heap.size (fun _ => True))
  have HQ6' := Aside0.mk (Kd.Q_of_R HQ6.out)
  clear HQ6
  have HQ6 := HQ6'
  clear HQ6'
  refine (applied_yes k g e s st ap m4 at_ mi A3 c3 l _ [] (fun _ => True) w w6 HI6.out HG.out HB6.out HQ6.out HR6.out H4.out H5.out H6.out HLB.out H7.out).mono ?_
  rintro e' w7 ⟨rfl, A7, c7, u7, hI7, hQ7, hR7, hB7, hK7⟩
  generalize hl7 : l.drop (at_ + 1).toNat = l7 at hI7 hQ7
  have HL7 := Aside0.mk hl7
  clear hl7
  have HI7 := Aside0.mk hI7
  have HQ7 := Aside0.mk hQ7
  have HR7 := Aside0.mk hR7
  have HB7 := Aside0.mk hB7
  have HZ7 := Aside0.mk (hK7 _ _ _ (by decide) HZ6.out)
  clear hc0 hc1 hc2 hc3 hc4 hc5 hf0 hf1 hf2 hf3 hf4 hf5
  clear hI7 hQ7 hR7 hB7 hK7 HI6 HQ6 HR6 HB6 HZ6
  obtain ⟨hc0, hc1, hc2, hc3, hc4, hc5, hf0, hf1, hf2, hf3, hf4, hf5⟩ := HI7.out.cells
  go_wp2
  clear hc0 hc1 hc2 hc3 hc4 hc5 hf0 hf1 hf2 hf3 hf4 hf5
  refine start_ (n := 10) (S := fun w' => w'.cell? ⟨g, 0, none⟩ = some (.int .i64 e) ∧ w'.cell? ⟨g, 1, none⟩ = some (.int .i64 s) ∧ w'.cell? ⟨g, 2, none⟩ = some (.slice A7 l7.length c7) ∧ w'.cell? ⟨g, 3, none⟩ = some (.int .i64 mi) ∧ w'.cell? ⟨g, 4, none⟩ = some (.int .i64 m4) ∧ w'.cell? ⟨g, 5, none⟩ = some (u7) ∧ Aside0 (StC w' g e s (.slice A7 l7.length c7) mi m4 (u7)) ∧ Aside0 (Kd.Q (Kd.int .i64) 3 w' w.heap.size (fun _ => True) (.slice A7 l7.length c7) l7) ∧ Aside0 (Kd.R k53 53 w' w.heap.size (fun _ => True) (u7) ([] : List S53)) ∧ Aside0 (Below w.heap.size w w')) (ds := []) #[false, false, false, false, false, false, false, false, false, false] (by kernel_rfl) rfl rfl ⟨HI7.out.drew.cells.1, HI7.out.drew.cells.2.1, HI7.out.drew.cells.2.2.1, HI7.out.drew.cells.2.2.2.1, HI7.out.drew.cells.2.2.2.2.1, HI7.out.drew.cells.2.2.2.2.2.1, ⟨HI7.out.drew⟩, ⟨Kd.Q_drew HQ7.out⟩, ⟨Kd.R_drew HR7.out⟩, ⟨below_drew1 HB7.out⟩⟩ (fun hHeld => ?_)
  refine pure_ (i := 0) (N := some 81) (v := ?_) (a' := ?_) #[true, false, false, false, false, false, false, false, false, false] rfl rfl (by kernel_rfl) (fun _ _ _ h => h) (Or.inl ⟨by rfl, ?_⟩) ?_ ?_
  rotate_left
  · intro w'
    go_simp
    with_reducible rfl
  rotate_left
  · simp only [Act.put, List.setIfInBounds_toArray, List.set_cons_zero, List.set_cons_succ, i64_w, i32_w]
    rfl
  refine pure_ (i := 1) (N := some 82) (v := ?_) (a' := ?_) #[true, true, false, false, false, false, false, false, false, false] rfl rfl (by kernel_rfl) (fun _ _ _ h => h) (Or.inl ⟨by rfl, ?_⟩) ?_ ?_
  rotate_left
  · intro w'
    go_simp
    with_reducible rfl
  rotate_left
  · simp only [Act.put, List.setIfInBounds_toArray, List.set_cons_zero, List.set_cons_succ, i64_w, i32_w]
    rfl
  refine pure_ (i := 2) (N := some 83) (v := ?_) (a' := ?_) #[true, true, true, false, false, false, false, false, false, false] rfl rfl (by kernel_rfl) (fun _ _ _ h => h) (Or.inl ⟨by rfl, ?_⟩) ?_ ?_
  rotate_left
  · intro w'
    go_simp
    with_reducible rfl
  rotate_left
  · simp only [Act.put, List.setIfInBounds_toArray, List.set_cons_zero, List.set_cons_succ, i64_w, i32_w]
    rfl
  refine pure_ (i := 4) (N := some 85) (v := ?_) (a' := ?_) #[true, true, true, false, true, false, false, false, false, false] rfl rfl (by kernel_rfl) (fun _ _ _ h => h) (Or.inl ⟨by rfl, ?_⟩) ?_ ?_
  rotate_left
  · intro w'
    go_simp
    with_reducible rfl
  rotate_left
  · simp only [Act.put, List.setIfInBounds_toArray, List.set_cons_zero, List.set_cons_succ, i64_w, i32_w]
    rfl
  refine pure_ (i := 5) (N := some 86) (v := ?_) (a' := ?_) #[true, true, true, false, true, true, false, false, false, false] rfl rfl (by kernel_rfl) (fun _ _ _ h => h) (Or.inl ⟨by rfl, ?_⟩) ?_ ?_
  rotate_left
  · intro w'
    go_simp
    with_reducible rfl
  rotate_left
  · simp only [Act.put, List.setIfInBounds_toArray, List.set_cons_zero, List.set_cons_succ, i64_w, i32_w]
    rfl
  refine pure_ (i := 6) (N := some 87) (v := ?_) (a' := ?_) #[true, true, true, false, true, true, true, false, false, false] rfl rfl (by kernel_rfl) (fun _ _ _ h => h) (Or.inl ⟨by rfl, ?_⟩) ?_ ?_
  rotate_left
  · intro w'
    go_simp
    with_reducible rfl
  rotate_left
  · simp only [Act.put, List.setIfInBounds_toArray, List.set_cons_zero, List.set_cons_succ, i64_w, i32_w]
    rfl
  refine take_ (i := 3) (N := some 84) (v := ?_) (a' := ?_) #[true, true, true, true, true, true, true, false, false, false] rfl rfl (by kernel_rfl) (fun _ _ _ h => h) (Or.inl ⟨by rfl, ?_⟩) hHeld ?_ ?_
  rotate_left
  · rintro w' ⟨s0, s1, s2, s3, s4, s5, s6, s7, s8, s9⟩
    go_simp
    with_reducible rfl
  rotate_left
  · simp only [Act.put, List.setIfInBounds_toArray, List.set_cons_zero, List.set_cons_succ, i64_w, i32_w]
    rfl
  refine take_ (i := 7) (N := some 88) (v := ?_) (a' := ?_) #[true, true, true, true, true, true, true, true, false, false] rfl rfl (by kernel_rfl) (fun _ _ _ h => h) (Or.inl ⟨by rfl, ?_⟩) hHeld ?_ ?_
  rotate_left
  · rintro w' ⟨s0, s1, s2, s3, s4, s5, s6, s7, s8, s9⟩
    go_simp
    with_reducible rfl
  rotate_left
  · simp only [Act.put, List.setIfInBounds_toArray, List.set_cons_zero, List.set_cons_succ, i64_w, i32_w]
    rfl
  refine one_ (i := 8) (N := none) #[true, true, true, true, true, true, true, true, true, false] rfl rfl (by kernel_rfl) (by decide) (fun K hK => ?_)
  clear hHeld
  have hz := HZ7.out
  have hcz0 := (blk_cell hz 0).trans rfl
  have hcz1 := (blk_cell hz 1).trans rfl
  have hcz2 := (blk_cell hz 2).trans rfl
  have hcz3 := (blk_cell hz 3).trans rfl
  have hcz4 := (blk_cell hz 4).trans rfl
  have hfz0 := blk_frozen hz 0
  have hfz1 := blk_frozen hz 1
  have hfz2 := blk_frozen hz 2
  have hfz3 := blk_frozen hz 3
  have hfz4 := blk_frozen hz 4
  clear hz
  refine skip_ (w1 := ?_) (by rfl) rfl ?_ ?_
  rotate_left
  · go_simp
    rfl
  have HK10 := Aside0.mk (kq_set5 (v0 := .int .i64 e) (v1 := .int .i64 s) (v2 := .slice A7 l7.length c7) (v3 := .int .i64 mi) (v4 := .int .i64 m4) (Kq.refl (fun t => t ≠ 24) _) HZ7.out (fun h => h rfl))
  have HI10 := Aside0.mk (StC.drew (show StC _ g e s (.slice A7 l7.length c7) mi m4 (u7) from HK10.out _ _ _ (by decide) HI7.out))
  have HQ10 := Aside0.mk (Kd.Q_drew (Q_kq HQ7.out HK10.out (by decide)))
  have HR10 := Aside0.mk (Kd.R_drew (R_kq HR7.out HK10.out (by decide)))
  have HB10 := Aside0.mk (below_drew1 (below_set5 (v0 := .int .i64 e) (v1 := .int .i64 s) (v2 := .slice A7 l7.length c7) (v3 := .int .i64 mi) (v4 := .int .i64 m4) HB7.out hgz))
  clear HK10
  refine hK.out _ _ ⟨HI10.out.cells.1, HI10.out.cells.2.1, HI10.out.cells.2.2.1, HI10.out.cells.2.2.2.1, HI10.out.cells.2.2.2.2.1, HI10.out.cells.2.2.2.2.2.1, HI10, HQ10, HR10, HB10⟩ (fun hHeld => ?_)
  clear hK K
  refine pure_ (i := 9) (N := some 5) (v := ?_) (a' := ?_) #[true, true, true, true, true, true, true, true, true, true] rfl rfl (by kernel_rfl) (fun _ _ _ h => h) (Or.inl ⟨by rfl, ?_⟩) ?_ ?_
  rotate_left
  · intro w'
    go_simp
    with_reducible rfl
  rotate_left
  · simp only [Act.put, List.setIfInBounds_toArray, List.set_cons_zero, List.set_cons_succ, i64_w, i32_w]
    rfl
  refine done_ (by kernel_rfl) ?_
  obtain ⟨-, -, -, -, -, -, HI11, HQ11, HR11, HB11⟩ := hHeld
  go_wp2
  refine bodyPost_ret (results_ct rfl _ _ (w.heap.size + 1 + 1) 24 #[.int .i64 e, .int .i64 s, .slice A7 l7.length c7, .int .i64 mi, .int .i64 m4] (0, 0) _ rfl (blk_put5 HZ7.out) Try.underlying24 rfl (by kernel_rfl)) rfl ?_
  rw [HL7.out]
  exact ⟨_, _, rfl, HQ11.out, HR11.out, HB11.out⟩
set_option maxHeartbeats 16000000 in
set_option maxRecDepth 100000 in
theorem learn_refused (k : Nat) (e s st ap : Int) (A : Option Addr) (c : Nat) (l : List Int) (m0 m1 m2 m3 m4 m5 : Int) (q6 q7 : Value) (w : World) (hr : Kd.C (Kd.int .i64) w A l.length l) (hc : l.length ≤ c) (h : commit_CheckSource.f k e s l st ap = some 0) (h1 : m1 = s) (h2 : ¬ m5 < e) (ht : commit_time.f m5 = some true) (hlb : l.length ≤ 1000000) (hk : m0 = 12) (h3 : m5 = e) :
    Calls Try.prog 29 #[.agg #[.int .i64 e, .int .i64 s, .slice A l.length c, .int .i64 st, .int .i64 ap], .agg #[.int .i64 m0, .int .i64 m1, .int .i64 m2, .int .i64 m3, .int .i64 m4, .int .i64 m5, q6, q7]] w fun e' w' => ∃ v2_ v5_ : Value, e' = .returned (.tuple #[.agg #[.int .i64 e, .int .i64 s, v2_, .int .i64 st, .int .i64 ap], v5_]) ∧ Kd.Q (Kd.int .i64) 3 w' w.heap.size (fun _ => True) v2_ l ∧ Kd.R k53 53 w' w.heap.size (fun _ => True) v5_ ([] : List S53) ∧ Below w.heap.size w w' := by
  have hu79 := Try.underlying79
  have hu24 := Try.underlying24
  have hu53 := Try.underlying53
  have HR := Aside0.mk hr
  have HC := Aside0.mk hc
  clear hr hc
  have hn1 : (m1 != s) = false := by rw [h1]; exact bne_self_eq_false s
  have hn2 : decide (m5 < e) = false := decide_eq_false h2
  have H := Aside0.mk h
  clear h
  have H1 := Aside0.mk h1
  clear h1
  have H2 := Aside0.mk h2
  clear h2
  have HT := Aside0.mk ht
  clear ht
  have HLB := Aside0.mk hlb
  clear hlb
  have hgt : decide (e < m5) = false := decide_eq_false (by omega)
  have H3 := Aside0.mk h3
  clear h3
  have HK := Aside0.mk hk
  clear hk
  have hgz : w.heap.size ≤ w.heap.size + 1 + 1 := by omega
  go_enter Try.func29, Try.ntmps29
  go_wp2_with fail
  have hW := three_alloc w #[.int .i64 e, .int .i64 s, .slice A l.length c, .int .i64 st, .int .i64 ap] #[.int .i64 m0, .int .i64 m1, .int .i64 m2, .int .i64 m3, .int .i64 m4, .int .i64 m5, q6, q7] #[.int .i64 0, .int .i64 0, .slice none 0 0, .int .i64 0, .int .i64 0]
  generalize ((w.alloc (.cells #[.int .i64 e, .int .i64 s, .slice A l.length c, .int .i64 st, .int .i64 ap] 24)).alloc (.cells #[.int .i64 m0, .int .i64 m1, .int .i64 m2, .int .i64 m3, .int .i64 m4, .int .i64 m5, q6, q7] 53)).alloc (.cells #[.int .i64 0, .int .i64 0, .slice none 0 0, .int .i64 0, .int .i64 0] 24) = W at hW ⊢
  refine (commit_CheckSource.calls k e s A c l st ap 0 W (Kd.C_below HR.out hW.2.2.2) HC.out H.out).mono ?_
  rintro e' w1 ⟨rfl, hb⟩
  have HX1 := Aside0.mk (blk_below hW.1 hb)
  have HM1 := Aside0.mk (blk_below hW.2.1 hb)
  have HZ1 := Aside0.mk (blk_below hW.2.2.1 hb)
  have HB1 := Aside0.mk (below_then hW.2.2.2 hW.2.2.2.size hb)
  clear hb hW
  have hx := HX1.out
  have hcx0 := (blk_cell hx 0).trans rfl
  have hcx1 := (blk_cell hx 1).trans rfl
  have hcx2 := (blk_cell hx 2).trans rfl
  have hcx3 := (blk_cell hx 3).trans rfl
  have hcx4 := (blk_cell hx 4).trans rfl
  have hfx0 := blk_frozen hx 0
  have hfx1 := blk_frozen hx 1
  have hfx2 := blk_frozen hx 2
  have hfx3 := blk_frozen hx 3
  have hfx4 := blk_frozen hx 4
  clear hx
  have hm := HM1.out
  have hcm0 := (blk_cell hm 0).trans rfl
  have hcm1 := (blk_cell hm 1).trans rfl
  have hcm2 := (blk_cell hm 2).trans rfl
  have hcm3 := (blk_cell hm 3).trans rfl
  have hcm4 := (blk_cell hm 4).trans rfl
  have hcm5 := (blk_cell hm 5).trans rfl
  clear hm
  have hz := HZ1.out
  have hcz0 := (blk_cell hz 0).trans rfl
  have hcz1 := (blk_cell hz 1).trans rfl
  have hcz2 := (blk_cell hz 2).trans rfl
  have hcz3 := (blk_cell hz 3).trans rfl
  have hcz4 := (blk_cell hz 4).trans rfl
  have hfz0 := blk_frozen hz 0
  have hfz1 := blk_frozen hz 1
  have hfz2 := blk_frozen hz 2
  have hfz3 := blk_frozen hz 3
  have hfz4 := blk_frozen hz 4
  clear hz
  go_wp2_with fail
  refine (commit_time.calls m5 true _ HT.out).mono ?_
  rintro e' w2 ⟨rfl, hd⟩
  clear hcx0 hfx0 hcx1 hfx1 hcx2 hfx2 hcx3 hfx3 hcx4 hfx4
  clear hcm0 hcm1 hcm2 hcm3 hcm4 hcm5
  clear hcz0 hfz0 hcz1 hfz1 hcz2 hfz2 hcz3 hfz3 hcz4 hfz4
  have HX2 := Aside0.mk (blk_below HX1.out hd.below)
  have HM2 := Aside0.mk (blk_below HM1.out hd.below)
  have HZ2 := Aside0.mk (blk_below HZ1.out hd.below)
  have HB2 := Aside0.mk (below_then HB1.out HB1.out.size hd.below)
  clear HX1 HM1 HZ1 HB1
  clear hd
  have hx := HX2.out
  have hcx0 := (blk_cell hx 0).trans rfl
  have hcx1 := (blk_cell hx 1).trans rfl
  have hcx2 := (blk_cell hx 2).trans rfl
  have hcx3 := (blk_cell hx 3).trans rfl
  have hcx4 := (blk_cell hx 4).trans rfl
  have hfx0 := blk_frozen hx 0
  have hfx1 := blk_frozen hx 1
  have hfx2 := blk_frozen hx 2
  have hfx3 := blk_frozen hx 3
  have hfx4 := blk_frozen hx 4
  clear hx
  have hm := HM2.out
  have hcm0 := (blk_cell hm 0).trans rfl
  have hcm1 := (blk_cell hm 1).trans rfl
  have hcm2 := (blk_cell hm 2).trans rfl
  have hcm3 := (blk_cell hm 3).trans rfl
  have hcm4 := (blk_cell hm 4).trans rfl
  have hcm5 := (blk_cell hm 5).trans rfl
  clear hm
  have hz := HZ2.out
  have hcz0 := (blk_cell hz 0).trans rfl
  have hcz1 := (blk_cell hz 1).trans rfl
  have hcz2 := (blk_cell hz 2).trans rfl
  have hcz3 := (blk_cell hz 3).trans rfl
  have hcz4 := (blk_cell hz 4).trans rfl
  have hfz0 := blk_frozen hz 0
  have hfz1 := blk_frozen hz 1
  have hfz2 := blk_frozen hz 2
  have hfz3 := blk_frozen hz 3
  have hfz4 := blk_frozen hz 4
  clear hz
  go_wp2_with fail
  have HC2 := Aside0.mk (Kd.C_below HR.out HB2.out)
  refine (commit_begin_calls e s st ap _ c l w2 HC2.out HC.out HLB.out).mono ?_
  rintro e' w3 ⟨g, v, rfl, hI, hR, hg, hb⟩
  obtain ⟨A3, c3, rfl⟩ := Kd.R_slice hR
  have HI3 := Aside0.mk hI
  have HQ3 := Aside0.mk (Kd.R_lower hR HB2.out.size)
  have HG := Aside0.mk (Nat.le_trans HB2.out.size hg)
  clear hcx0 hfx0 hcx1 hfx1 hcx2 hfx2 hcx3 hfx3 hcx4 hfx4
  clear hcm0 hcm1 hcm2 hcm3 hcm4 hcm5
  clear hcz0 hfz0 hcz1 hfz1 hcz2 hfz2 hcz3 hfz3 hcz4 hfz4
  have HX3 := Aside0.mk (blk_below HX2.out hb)
  have HM3 := Aside0.mk (blk_below HM2.out hb)
  have HZ3 := Aside0.mk (blk_below HZ2.out hb)
  have HB3 := Aside0.mk (below_then HB2.out HB2.out.size hb)
  clear HX2 HM2 HZ2 HB2
  clear hI hR hg hb HC2 HC HR
  obtain ⟨hc0, hc1, hc2, hc3, hc4, hc5, hf0, hf1, hf2, hf3, hf4, hf5⟩ := HI3.out.cells
  have hm := HM3.out
  have hcm0 := (blk_cell hm 0).trans rfl
  have hcm1 := (blk_cell hm 1).trans rfl
  have hcm2 := (blk_cell hm 2).trans rfl
  have hcm3 := (blk_cell hm 3).trans rfl
  have hcm4 := (blk_cell hm 4).trans rfl
  have hcm5 := (blk_cell hm 5).trans rfl
  clear hm
  have hmk := @run_makeMap Try.prog
  obtain ⟨f51, hf51⟩ : ∃ v : Value, v = .func (.func 51) #[.pointer (some ⟨g, 0, none⟩)] #[] := ⟨_, rfl⟩
  obtain ⟨f52, hf52⟩ : ∃ v : Value, v = .func (.func 52) #[.pointer (some ⟨g, 0, none⟩)] #[] := ⟨_, rfl⟩
  obtain ⟨f53, hf53⟩ : ∃ v : Value, v = .func (.func 53) #[.pointer (some ⟨g, 0, none⟩)] #[] := ⟨_, rfl⟩
  have HF51 := Aside0.mk hf51
  have HF52 := Aside0.mk hf52
  have HF53 := Aside0.mk hf53
  clear hf51 hf52 hf53
  go_wp2_with (first | (refine wpList_insert_at _ rfl (.tmp 36) (.const (.int .i64 9)) (.tmp 38) 86 rfl Try.underlying86 Try.underlying3 w3.heap.size #[] 0 9 f51 rfl rfl (by rw [HF51.out]; rfl) (MapKept.heap_alloc _ _).1 rfl ?_; intro w4 hp4 hg4; have HP4 := Aside0.mk hp4; have HG4 := Aside0.mk hg4; clear hp4 hg4) | (refine wpList_insert_at _ rfl (.tmp 36) (.const (.int .i64 11)) (.tmp 40) 86 rfl Try.underlying86 Try.underlying3 w3.heap.size #[⟨.int .i64 9, f51, 0⟩] 1 11 f52 rfl rfl (by rw [HF52.out]; rfl) HP4.out rfl ?_; intro w5 hp5 hg5; have HP5 := Aside0.mk hp5; have HG5 := Aside0.mk (HG4.out.trans hg5); clear hp5 hg5 HP4 HG4) | (refine wpList_insert_at _ rfl (.tmp 36) (.const (.int .i64 12)) (.tmp 42) 86 rfl Try.underlying86 Try.underlying3 w3.heap.size #[⟨.int .i64 9, f51, 0⟩, ⟨.int .i64 11, f52, 1⟩] 2 12 f53 rfl rfl (by rw [HF53.out]; rfl) HP5.out rfl ?_; intro w6 hp6 hg6; have hb6 := map_below (HG5.out.trans hg6); clear hc0 hc1 hc2 hc3 hc4 hc5 hf0 hf1 hf2 hf3 hf4 hf5; clear hcm0 hcm1 hcm2 hcm3 hcm4 hcm5; have HX6 := Aside0.mk (blk_below HX3.out hb6); have HM6 := Aside0.mk (blk_below HM3.out hb6); have HZ6 := Aside0.mk (blk_below HZ3.out hb6); have HB6 := Aside0.mk (below_then HB3.out HB3.out.size hb6); have HI6 := Aside0.mk (HI3.out.below hb6); have HQ6 := Aside0.mk (Kd.R_below HQ3.out hb6); clear HX3 HM3 HZ3 HB3 HI3 HQ3; have hm := HM6.out; have hcm0 := (blk_cell hm 0).trans rfl; have hcm1 := (blk_cell hm 1).trans rfl; have hcm2 := (blk_cell hm 2).trans rfl; have hcm3 := (blk_cell hm 3).trans rfl; have hcm4 := (blk_cell hm 4).trans rfl; have hcm5 := (blk_cell hm 5).trans rfl; clear hm; have hx := HX6.out; have hcx0 := (blk_cell hx 0).trans rfl; have hcx1 := (blk_cell hx 1).trans rfl; have hcx2 := (blk_cell hx 2).trans rfl; have hcx3 := (blk_cell hx 3).trans rfl; have hcx4 := (blk_cell hx 4).trans rfl; have hfx0 := blk_frozen hx 0; have hfx1 := blk_frozen hx 1; have hfx2 := blk_frozen hx 2; have hfx3 := blk_frozen hx 3; have hfx4 := blk_frozen hx 4; clear hx; obtain ⟨hc0, hc1, hc2, hc3, hc4, hc5, hf0, hf1, hf2, hf3, hf4, hf5⟩ := HI6.out.cells; have hlk := look_int (P := Try.prog) Try.underlying86 Try.underlying3 hp6 m0 2 f53 (by rw [HK.out]; rfl) true; rw [HF53.out] at hlk; clear hp6 hg6 HP5 HG5 hb6))
  have HR6 := Aside0.mk (Kd.R_nil k53 53 w6 w.heap.size (fun _ => True))
  have HQ6' := Aside0.mk (Kd.Q_of_R HQ6.out)
  clear HQ6
  have HQ6 := HQ6'
  clear HQ6'
  refine (refused_calls g e s st ap m4 A3 c3 l _ [] (fun _ => True) w w6 HI6.out HB6.out HQ6.out HR6.out).mono ?_
  rintro e' w7 ⟨rfl, A7, c7, u7, hI7, hQ7, hR7, hB7, hK7⟩
  have HI7 := Aside0.mk hI7
  have HQ7 := Aside0.mk hQ7
  have HR7 := Aside0.mk hR7
  have HB7 := Aside0.mk hB7
  have HZ7 := Aside0.mk (hK7 _ _ _ (by decide) HZ6.out)
  clear hc0 hc1 hc2 hc3 hc4 hc5 hf0 hf1 hf2 hf3 hf4 hf5
  clear hI7 hQ7 hR7 hB7 hK7 HI6 HQ6 HR6 HB6 HZ6
  obtain ⟨hc0, hc1, hc2, hc3, hc4, hc5, hf0, hf1, hf2, hf3, hf4, hf5⟩ := HI7.out.cells
  go_wp2
  clear hc0 hc1 hc2 hc3 hc4 hc5 hf0 hf1 hf2 hf3 hf4 hf5
  refine start_ (n := 10) (S := fun w' => w'.cell? ⟨g, 0, none⟩ = some (.int .i64 e) ∧ w'.cell? ⟨g, 1, none⟩ = some (.int .i64 s) ∧ w'.cell? ⟨g, 2, none⟩ = some (.slice A7 l.length c7) ∧ w'.cell? ⟨g, 3, none⟩ = some (.int .i64 st) ∧ w'.cell? ⟨g, 4, none⟩ = some (.int .i64 ap) ∧ w'.cell? ⟨g, 5, none⟩ = some (u7) ∧ Aside0 (StC w' g e s (.slice A7 l.length c7) st ap (u7)) ∧ Aside0 (Kd.Q (Kd.int .i64) 3 w' w.heap.size (fun _ => True) (.slice A7 l.length c7) l) ∧ Aside0 (Kd.R k53 53 w' w.heap.size (fun _ => True) (u7) ([] : List S53)) ∧ Aside0 (Below w.heap.size w w')) (ds := []) #[false, false, false, false, false, false, false, false, false, false] (by kernel_rfl) rfl rfl ⟨HI7.out.drew.cells.1, HI7.out.drew.cells.2.1, HI7.out.drew.cells.2.2.1, HI7.out.drew.cells.2.2.2.1, HI7.out.drew.cells.2.2.2.2.1, HI7.out.drew.cells.2.2.2.2.2.1, ⟨HI7.out.drew⟩, ⟨Kd.Q_drew HQ7.out⟩, ⟨Kd.R_drew HR7.out⟩, ⟨below_drew1 HB7.out⟩⟩ (fun hHeld => ?_)
  refine pure_ (i := 0) (N := some 81) (v := ?_) (a' := ?_) #[true, false, false, false, false, false, false, false, false, false] rfl rfl (by kernel_rfl) (fun _ _ _ h => h) (Or.inl ⟨by rfl, ?_⟩) ?_ ?_
  rotate_left
  · intro w'
    go_simp
    with_reducible rfl
  rotate_left
  · simp only [Act.put, List.setIfInBounds_toArray, List.set_cons_zero, List.set_cons_succ, i64_w, i32_w]
    rfl
  refine pure_ (i := 1) (N := some 82) (v := ?_) (a' := ?_) #[true, true, false, false, false, false, false, false, false, false] rfl rfl (by kernel_rfl) (fun _ _ _ h => h) (Or.inl ⟨by rfl, ?_⟩) ?_ ?_
  rotate_left
  · intro w'
    go_simp
    with_reducible rfl
  rotate_left
  · simp only [Act.put, List.setIfInBounds_toArray, List.set_cons_zero, List.set_cons_succ, i64_w, i32_w]
    rfl
  refine pure_ (i := 2) (N := some 83) (v := ?_) (a' := ?_) #[true, true, true, false, false, false, false, false, false, false] rfl rfl (by kernel_rfl) (fun _ _ _ h => h) (Or.inl ⟨by rfl, ?_⟩) ?_ ?_
  rotate_left
  · intro w'
    go_simp
    with_reducible rfl
  rotate_left
  · simp only [Act.put, List.setIfInBounds_toArray, List.set_cons_zero, List.set_cons_succ, i64_w, i32_w]
    rfl
  refine pure_ (i := 4) (N := some 85) (v := ?_) (a' := ?_) #[true, true, true, false, true, false, false, false, false, false] rfl rfl (by kernel_rfl) (fun _ _ _ h => h) (Or.inl ⟨by rfl, ?_⟩) ?_ ?_
  rotate_left
  · intro w'
    go_simp
    with_reducible rfl
  rotate_left
  · simp only [Act.put, List.setIfInBounds_toArray, List.set_cons_zero, List.set_cons_succ, i64_w, i32_w]
    rfl
  refine pure_ (i := 5) (N := some 86) (v := ?_) (a' := ?_) #[true, true, true, false, true, true, false, false, false, false] rfl rfl (by kernel_rfl) (fun _ _ _ h => h) (Or.inl ⟨by rfl, ?_⟩) ?_ ?_
  rotate_left
  · intro w'
    go_simp
    with_reducible rfl
  rotate_left
  · simp only [Act.put, List.setIfInBounds_toArray, List.set_cons_zero, List.set_cons_succ, i64_w, i32_w]
    rfl
  refine pure_ (i := 6) (N := some 87) (v := ?_) (a' := ?_) #[true, true, true, false, true, true, true, false, false, false] rfl rfl (by kernel_rfl) (fun _ _ _ h => h) (Or.inl ⟨by rfl, ?_⟩) ?_ ?_
  rotate_left
  · intro w'
    go_simp
    with_reducible rfl
  rotate_left
  · simp only [Act.put, List.setIfInBounds_toArray, List.set_cons_zero, List.set_cons_succ, i64_w, i32_w]
    rfl
  refine take_ (i := 3) (N := some 84) (v := ?_) (a' := ?_) #[true, true, true, true, true, true, true, false, false, false] rfl rfl (by kernel_rfl) (fun _ _ _ h => h) (Or.inl ⟨by rfl, ?_⟩) hHeld ?_ ?_
  rotate_left
  · rintro w' ⟨s0, s1, s2, s3, s4, s5, s6, s7, s8, s9⟩
    go_simp
    with_reducible rfl
  rotate_left
  · simp only [Act.put, List.setIfInBounds_toArray, List.set_cons_zero, List.set_cons_succ, i64_w, i32_w]
    rfl
  refine take_ (i := 7) (N := some 88) (v := ?_) (a' := ?_) #[true, true, true, true, true, true, true, true, false, false] rfl rfl (by kernel_rfl) (fun _ _ _ h => h) (Or.inl ⟨by rfl, ?_⟩) hHeld ?_ ?_
  rotate_left
  · rintro w' ⟨s0, s1, s2, s3, s4, s5, s6, s7, s8, s9⟩
    go_simp
    with_reducible rfl
  rotate_left
  · simp only [Act.put, List.setIfInBounds_toArray, List.set_cons_zero, List.set_cons_succ, i64_w, i32_w]
    rfl
  refine one_ (i := 8) (N := none) #[true, true, true, true, true, true, true, true, true, false] rfl rfl (by kernel_rfl) (by decide) (fun K hK => ?_)
  clear hHeld
  have hz := HZ7.out
  have hcz0 := (blk_cell hz 0).trans rfl
  have hcz1 := (blk_cell hz 1).trans rfl
  have hcz2 := (blk_cell hz 2).trans rfl
  have hcz3 := (blk_cell hz 3).trans rfl
  have hcz4 := (blk_cell hz 4).trans rfl
  have hfz0 := blk_frozen hz 0
  have hfz1 := blk_frozen hz 1
  have hfz2 := blk_frozen hz 2
  have hfz3 := blk_frozen hz 3
  have hfz4 := blk_frozen hz 4
  clear hz
  refine skip_ (w1 := ?_) (by rfl) rfl ?_ ?_
  rotate_left
  · go_simp
    rfl
  have HK10 := Aside0.mk (kq_set5 (v0 := .int .i64 e) (v1 := .int .i64 s) (v2 := .slice A7 l.length c7) (v3 := .int .i64 st) (v4 := .int .i64 ap) (Kq.refl (fun t => t ≠ 24) _) HZ7.out (fun h => h rfl))
  have HI10 := Aside0.mk (StC.drew (show StC _ g e s (.slice A7 l.length c7) st ap (u7) from HK10.out _ _ _ (by decide) HI7.out))
  have HQ10 := Aside0.mk (Kd.Q_drew (Q_kq HQ7.out HK10.out (by decide)))
  have HR10 := Aside0.mk (Kd.R_drew (R_kq HR7.out HK10.out (by decide)))
  have HB10 := Aside0.mk (below_drew1 (below_set5 (v0 := .int .i64 e) (v1 := .int .i64 s) (v2 := .slice A7 l.length c7) (v3 := .int .i64 st) (v4 := .int .i64 ap) HB7.out hgz))
  clear HK10
  refine hK.out _ _ ⟨HI10.out.cells.1, HI10.out.cells.2.1, HI10.out.cells.2.2.1, HI10.out.cells.2.2.2.1, HI10.out.cells.2.2.2.2.1, HI10.out.cells.2.2.2.2.2.1, HI10, HQ10, HR10, HB10⟩ (fun hHeld => ?_)
  clear hK K
  refine pure_ (i := 9) (N := some 5) (v := ?_) (a' := ?_) #[true, true, true, true, true, true, true, true, true, true] rfl rfl (by kernel_rfl) (fun _ _ _ h => h) (Or.inl ⟨by rfl, ?_⟩) ?_ ?_
  rotate_left
  · intro w'
    go_simp
    with_reducible rfl
  rotate_left
  · simp only [Act.put, List.setIfInBounds_toArray, List.set_cons_zero, List.set_cons_succ, i64_w, i32_w]
    rfl
  refine done_ (by kernel_rfl) ?_
  obtain ⟨-, -, -, -, -, -, HI11, HQ11, HR11, HB11⟩ := hHeld
  go_wp2
  refine bodyPost_ret (results_ct rfl _ _ (w.heap.size + 1 + 1) 24 #[.int .i64 e, .int .i64 s, .slice A7 l.length c7, .int .i64 st, .int .i64 ap] (0, 0) _ rfl (blk_put5 HZ7.out) Try.underlying24 rfl (by kernel_rfl)) rfl ?_
  exact ⟨_, _, rfl, HQ11.out, HR11.out, HB11.out⟩
set_option maxHeartbeats 40000000 in
set_option maxRecDepth 100000 in
theorem offer_err (k : Nat) (e s st ap : Int) (A : Option Addr) (c : Nat) (l : List Int) (cy : Int) (r : Int) (w : World) (hr : Kd.C (Kd.int .i64) w A l.length l) (hc : l.length ≤ c) (h : commit_CheckSource.f k e s l st ap = some r) (he : r ≠ 0) :
    Calls Try.prog 22 #[.agg #[.int .i64 e, .int .i64 s, .slice A l.length c, .int .i64 st, .int .i64 ap], .int .i64 cy] w fun e' w' => e' = .returned (.tuple #[.agg #[.int .i64 0, .int .i64 0, .slice none 0 0, .int .i64 0, .int .i64 0], .slice none 0 0, .int .i64 r]) ∧ Below w.heap.size w w' := by
  have hu79 := Try.underlying79
  have hu24 := Try.underlying24
  have HR := Aside0.mk hr
  have HC := Aside0.mk hc
  clear hr hc
  have hn : (r != 0) = true := bne_iff_ne.2 he
  have H := Aside0.mk h
  clear h
  have HE := Aside0.mk he
  clear he
  go_enter Try.func22, Try.ntmps22
  go_wp2_with fail
  have hW := two_alloc w #[.int .i64 e, .int .i64 s, .slice A l.length c, .int .i64 st, .int .i64 ap] #[.int .i64 0, .int .i64 0, .slice none 0 0, .int .i64 0, .int .i64 0]
  generalize (w.alloc (.cells #[.int .i64 e, .int .i64 s, .slice A l.length c, .int .i64 st, .int .i64 ap] 24)).alloc (.cells #[.int .i64 0, .int .i64 0, .slice none 0 0, .int .i64 0, .int .i64 0] 24) = W at hW ⊢
  have hgz : w.heap.size ≤ w.heap.size + 1 := Nat.le_succ _
  refine (commit_CheckSource.calls k e s A c l st ap r W (Kd.C_below HR.out hW.2.2) HC.out H.out).mono ?_
  rintro e' w1 ⟨rfl, hb⟩
  have HX1 := Aside0.mk (blk_below hW.1 hb)
  have HZ1 := Aside0.mk (blk_below hW.2.1 hb)
  have HB1 := Aside0.mk (below_then hW.2.2 hW.2.2.size hb)
  clear hb hW
  have hz := HZ1.out
  have hcz0 := (blk_cell hz 0).trans rfl
  have hcz1 := (blk_cell hz 1).trans rfl
  have hcz2 := (blk_cell hz 2).trans rfl
  have hcz3 := (blk_cell hz 3).trans rfl
  have hcz4 := (blk_cell hz 4).trans rfl
  have hfz0 := blk_frozen hz 0
  have hfz1 := blk_frozen hz 1
  have hfz2 := blk_frozen hz 2
  have hfz3 := blk_frozen hz 3
  have hfz4 := blk_frozen hz 4
  clear hz
  go_wp2
  refine bodyPost_ret (results_ctt rfl _ _ (w.heap.size + 1) 24 #[.int .i64 0, .int .i64 0, .slice none 0 0, .int .i64 0, .int .i64 0] (0, 0) _ rfl (blk_put5 HZ1.out) Try.underlying24 rfl (by kernel_rfl)) rfl ?_
  exact ⟨rfl, below_set5 HB1.out hgz⟩
set_option maxHeartbeats 40000000 in
set_option maxRecDepth 100000 in
theorem offer_twice (k : Nat) (e s st ap : Int) (A : Option Addr) (c : Nat) (l : List Int) (cy : Int) (w : World) (hr : Kd.C (Kd.int .i64) w A l.length l) (hc : l.length ≤ c) (h : commit_CheckSource.f k e s l st ap = some 0) (la : Int) (hla : la = lastOf ap l) (hlb : l.length ≤ 1000000) (h1 : cy ≤ la) :
    Calls Try.prog 22 #[.agg #[.int .i64 e, .int .i64 s, .slice A l.length c, .int .i64 st, .int .i64 ap], .int .i64 cy] w fun e' w' => e' = .returned (.tuple #[.agg #[.int .i64 0, .int .i64 0, .slice none 0 0, .int .i64 0, .int .i64 0], .slice none 0 0, .int .i64 8]) ∧ Below w.heap.size w w' := by
  have hu79 := Try.underlying79
  have hu24 := Try.underlying24
  have HR := Aside0.mk hr
  have HC := Aside0.mk hc
  clear hr hc
  have H := Aside0.mk h
  clear h
  have HLA := Aside0.mk hla
  clear hla
  have HLB := Aside0.mk hlb
  clear hlb
  have H1 := Aside0.mk h1
  clear h1
  go_enter Try.func22, Try.ntmps22
  go_wp2_with fail
  have hW := two_alloc w #[.int .i64 e, .int .i64 s, .slice A l.length c, .int .i64 st, .int .i64 ap] #[.int .i64 0, .int .i64 0, .slice none 0 0, .int .i64 0, .int .i64 0]
  generalize (w.alloc (.cells #[.int .i64 e, .int .i64 s, .slice A l.length c, .int .i64 st, .int .i64 ap] 24)).alloc (.cells #[.int .i64 0, .int .i64 0, .slice none 0 0, .int .i64 0, .int .i64 0] 24) = W at hW ⊢
  have hgz : w.heap.size ≤ w.heap.size + 1 := Nat.le_succ _
  refine (commit_CheckSource.calls k e s A c l st ap 0 W (Kd.C_below HR.out hW.2.2) HC.out H.out).mono ?_
  rintro e' w1 ⟨rfl, hb⟩
  have HX1 := Aside0.mk (blk_below hW.1 hb)
  have HZ1 := Aside0.mk (blk_below hW.2.1 hb)
  have HB1 := Aside0.mk (below_then hW.2.2 hW.2.2.size hb)
  clear hb hW
  have HC1 := Aside0.mk (Kd.C_below HR.out HB1.out)
  by_cases hl0 : l.length = 0
  focus
    have hp : decide (0 < l.length) = false := decide_eq_false (by omega)
    obtain rfl : ap = la := by rw [HLA.out]; unfold lastOf; rw [if_pos hl0]
    clear hl0
    have hd1 : decide (cy ≤ ap) = true := decide_eq_true H1.out
    have hx := HX1.out
    have hcx0 := (blk_cell hx 0).trans rfl
    have hcx1 := (blk_cell hx 1).trans rfl
    have hcx2 := (blk_cell hx 2).trans rfl
    have hcx3 := (blk_cell hx 3).trans rfl
    have hcx4 := (blk_cell hx 4).trans rfl
    have hfx0 := blk_frozen hx 0
    have hfx1 := blk_frozen hx 1
    have hfx2 := blk_frozen hx 2
    have hfx3 := blk_frozen hx 3
    have hfx4 := blk_frozen hx 4
    clear hx
    have hz := HZ1.out
    have hcz0 := (blk_cell hz 0).trans rfl
    have hcz1 := (blk_cell hz 1).trans rfl
    have hcz2 := (blk_cell hz 2).trans rfl
    have hcz3 := (blk_cell hz 3).trans rfl
    have hcz4 := (blk_cell hz 4).trans rfl
    have hfz0 := blk_frozen hz 0
    have hfz1 := blk_frozen hz 1
    have hfz2 := blk_frozen hz 2
    have hfz3 := blk_frozen hz 3
    have hfz4 := blk_frozen hz 4
    clear hz
    go_wp2
  rotate_left
  focus
    have hp : decide (0 < l.length) = true := decide_eq_true (by omega)
    obtain ⟨ji, hji⟩ : ∃ ji : Int, ji = (l.length : Int) - 1 := ⟨_, rfl⟩
    have hw : IntKind.i64.wrap ((l.length : Int) - 1) = ji := by rw [hji]; exact IntWalk.i64_in _ (by have := HLB.out; omega)
    have hw2 : wrap64 ((l.length : Int) - 1) = ji := by rw [hji]; unfold wrap64; have := HLB.out; omega
    have hp1 : (0:Int) ≤ ji := by omega
    have hp2 : ji < (l.length : Int) := by omega
    obtain ⟨ad, ea, hx⟩ := at_int HC1.out ji hp1 hp2
    have hla2 : rd l ji = la := by rw [HLA.out]; unfold lastOf; rw [if_neg hl0, hji]
    rw [hla2] at hx
    have HEA := Aside0.mk ea
    cases ea
    clear hji hla2 hl0
    replace hp1 := eq_true hp1
    replace hp2 := eq_true hp2
    have hd1 : decide (cy ≤ la) = true := decide_eq_true H1.out
    have hx := HX1.out
    have hcx0 := (blk_cell hx 0).trans rfl
    have hcx1 := (blk_cell hx 1).trans rfl
    have hcx2 := (blk_cell hx 2).trans rfl
    have hcx3 := (blk_cell hx 3).trans rfl
    have hcx4 := (blk_cell hx 4).trans rfl
    have hfx0 := blk_frozen hx 0
    have hfx1 := blk_frozen hx 1
    have hfx2 := blk_frozen hx 2
    have hfx3 := blk_frozen hx 3
    have hfx4 := blk_frozen hx 4
    clear hx
    have hz := HZ1.out
    have hcz0 := (blk_cell hz 0).trans rfl
    have hcz1 := (blk_cell hz 1).trans rfl
    have hcz2 := (blk_cell hz 2).trans rfl
    have hcz3 := (blk_cell hz 3).trans rfl
    have hcz4 := (blk_cell hz 4).trans rfl
    have hfz0 := blk_frozen hz 0
    have hfz1 := blk_frozen hz 1
    have hfz2 := blk_frozen hz 2
    have hfz3 := blk_frozen hz 3
    have hfz4 := blk_frozen hz 4
    clear hz
    go_wp2
    clear hp1 hp2 hw hw2 hx
  all_goals
    refine bodyPost_ret (results_ctt rfl _ _ (w.heap.size + 1) 24 #[.int .i64 0, .int .i64 0, .slice none 0 0, .int .i64 0, .int .i64 0] (0, 0) _ rfl (blk_put5 HZ1.out) Try.underlying24 rfl (by kernel_rfl)) rfl ?_
    exact ⟨rfl, below_set5 HB1.out hgz⟩
set_option maxHeartbeats 40000000 in
set_option maxRecDepth 100000 in
theorem offer_range (k : Nat) (e s st ap : Int) (A : Option Addr) (c : Nat) (l : List Int) (cy : Int) (w : World) (hr : Kd.C (Kd.int .i64) w A l.length l) (hc : l.length ≤ c) (h : commit_CheckSource.f k e s l st ap = some 0) (la : Int) (hla : la = lastOf ap l) (hlb : l.length ≤ 1000000) (h1 : ¬ cy ≤ la) (h2 : 1073741824 < cy) :
    Calls Try.prog 22 #[.agg #[.int .i64 e, .int .i64 s, .slice A l.length c, .int .i64 st, .int .i64 ap], .int .i64 cy] w fun e' w' => e' = .returned (.tuple #[.agg #[.int .i64 0, .int .i64 0, .slice none 0 0, .int .i64 0, .int .i64 0], .slice none 0 0, .int .i64 2]) ∧ Below w.heap.size w w' := by
  have hu79 := Try.underlying79
  have hu24 := Try.underlying24
  have HR := Aside0.mk hr
  have HC := Aside0.mk hc
  clear hr hc
  have H := Aside0.mk h
  clear h
  have HLA := Aside0.mk hla
  clear hla
  have HLB := Aside0.mk hlb
  clear hlb
  have H1 := Aside0.mk h1
  clear h1
  have H2 := Aside0.mk h2
  clear h2
  go_enter Try.func22, Try.ntmps22
  go_wp2_with fail
  have hW := two_alloc w #[.int .i64 e, .int .i64 s, .slice A l.length c, .int .i64 st, .int .i64 ap] #[.int .i64 0, .int .i64 0, .slice none 0 0, .int .i64 0, .int .i64 0]
  generalize (w.alloc (.cells #[.int .i64 e, .int .i64 s, .slice A l.length c, .int .i64 st, .int .i64 ap] 24)).alloc (.cells #[.int .i64 0, .int .i64 0, .slice none 0 0, .int .i64 0, .int .i64 0] 24) = W at hW ⊢
  have hgz : w.heap.size ≤ w.heap.size + 1 := Nat.le_succ _
  refine (commit_CheckSource.calls k e s A c l st ap 0 W (Kd.C_below HR.out hW.2.2) HC.out H.out).mono ?_
  rintro e' w1 ⟨rfl, hb⟩
  have HX1 := Aside0.mk (blk_below hW.1 hb)
  have HZ1 := Aside0.mk (blk_below hW.2.1 hb)
  have HB1 := Aside0.mk (below_then hW.2.2 hW.2.2.size hb)
  clear hb hW
  have HC1 := Aside0.mk (Kd.C_below HR.out HB1.out)
  by_cases hl0 : l.length = 0
  focus
    have hp : decide (0 < l.length) = false := decide_eq_false (by omega)
    obtain rfl : ap = la := by rw [HLA.out]; unfold lastOf; rw [if_pos hl0]
    clear hl0
    have hd1 : decide (cy ≤ ap) = false := decide_eq_false (by have := H1.out; omega)
    have hd2 : decide (1073741824 < cy) = true := decide_eq_true H2.out
    have hx := HX1.out
    have hcx0 := (blk_cell hx 0).trans rfl
    have hcx1 := (blk_cell hx 1).trans rfl
    have hcx2 := (blk_cell hx 2).trans rfl
    have hcx3 := (blk_cell hx 3).trans rfl
    have hcx4 := (blk_cell hx 4).trans rfl
    have hfx0 := blk_frozen hx 0
    have hfx1 := blk_frozen hx 1
    have hfx2 := blk_frozen hx 2
    have hfx3 := blk_frozen hx 3
    have hfx4 := blk_frozen hx 4
    clear hx
    have hz := HZ1.out
    have hcz0 := (blk_cell hz 0).trans rfl
    have hcz1 := (blk_cell hz 1).trans rfl
    have hcz2 := (blk_cell hz 2).trans rfl
    have hcz3 := (blk_cell hz 3).trans rfl
    have hcz4 := (blk_cell hz 4).trans rfl
    have hfz0 := blk_frozen hz 0
    have hfz1 := blk_frozen hz 1
    have hfz2 := blk_frozen hz 2
    have hfz3 := blk_frozen hz 3
    have hfz4 := blk_frozen hz 4
    clear hz
    go_wp2
  rotate_left
  focus
    have hp : decide (0 < l.length) = true := decide_eq_true (by omega)
    obtain ⟨ji, hji⟩ : ∃ ji : Int, ji = (l.length : Int) - 1 := ⟨_, rfl⟩
    have hw : IntKind.i64.wrap ((l.length : Int) - 1) = ji := by rw [hji]; exact IntWalk.i64_in _ (by have := HLB.out; omega)
    have hw2 : wrap64 ((l.length : Int) - 1) = ji := by rw [hji]; unfold wrap64; have := HLB.out; omega
    have hp1 : (0:Int) ≤ ji := by omega
    have hp2 : ji < (l.length : Int) := by omega
    obtain ⟨ad, ea, hx⟩ := at_int HC1.out ji hp1 hp2
    have hla2 : rd l ji = la := by rw [HLA.out]; unfold lastOf; rw [if_neg hl0, hji]
    rw [hla2] at hx
    have HEA := Aside0.mk ea
    cases ea
    clear hji hla2 hl0
    replace hp1 := eq_true hp1
    replace hp2 := eq_true hp2
    have hd1 : decide (cy ≤ la) = false := decide_eq_false (by have := H1.out; omega)
    have hd2 : decide (1073741824 < cy) = true := decide_eq_true H2.out
    have hx := HX1.out
    have hcx0 := (blk_cell hx 0).trans rfl
    have hcx1 := (blk_cell hx 1).trans rfl
    have hcx2 := (blk_cell hx 2).trans rfl
    have hcx3 := (blk_cell hx 3).trans rfl
    have hcx4 := (blk_cell hx 4).trans rfl
    have hfx0 := blk_frozen hx 0
    have hfx1 := blk_frozen hx 1
    have hfx2 := blk_frozen hx 2
    have hfx3 := blk_frozen hx 3
    have hfx4 := blk_frozen hx 4
    clear hx
    have hz := HZ1.out
    have hcz0 := (blk_cell hz 0).trans rfl
    have hcz1 := (blk_cell hz 1).trans rfl
    have hcz2 := (blk_cell hz 2).trans rfl
    have hcz3 := (blk_cell hz 3).trans rfl
    have hcz4 := (blk_cell hz 4).trans rfl
    have hfz0 := blk_frozen hz 0
    have hfz1 := blk_frozen hz 1
    have hfz2 := blk_frozen hz 2
    have hfz3 := blk_frozen hz 3
    have hfz4 := blk_frozen hz 4
    clear hz
    go_wp2
    clear hp1 hp2 hw hw2 hx
  all_goals
    refine bodyPost_ret (results_ctt rfl _ _ (w.heap.size + 1) 24 #[.int .i64 0, .int .i64 0, .slice none 0 0, .int .i64 0, .int .i64 0] (0, 0) _ rfl (blk_put5 HZ1.out) Try.underlying24 rfl (by kernel_rfl)) rfl ?_
    exact ⟨rfl, below_set5 HB1.out hgz⟩
set_option maxHeartbeats 40000000 in
set_option maxRecDepth 100000 in
theorem offer_many (k : Nat) (e s st ap : Int) (A : Option Addr) (c : Nat) (l : List Int) (cy : Int) (w : World) (hr : Kd.C (Kd.int .i64) w A l.length l) (hc : l.length ≤ c) (h : commit_CheckSource.f k e s l st ap = some 0) (la : Int) (hla : la = lastOf ap l) (hlb : l.length ≤ 1000000) (h1 : ¬ cy ≤ la) (h2 : ¬ 1073741824 < cy) (h3 : 1024 ≤ l.length) :
    Calls Try.prog 22 #[.agg #[.int .i64 e, .int .i64 s, .slice A l.length c, .int .i64 st, .int .i64 ap], .int .i64 cy] w fun e' w' => e' = .returned (.tuple #[.agg #[.int .i64 0, .int .i64 0, .slice none 0 0, .int .i64 0, .int .i64 0], .slice none 0 0, .int .i64 6]) ∧ Below w.heap.size w w' := by
  have hu79 := Try.underlying79
  have hu24 := Try.underlying24
  have HR := Aside0.mk hr
  have HC := Aside0.mk hc
  clear hr hc
  have H := Aside0.mk h
  clear h
  have HLA := Aside0.mk hla
  clear hla
  have HLB := Aside0.mk hlb
  clear hlb
  have H1 := Aside0.mk h1
  clear h1
  have H2 := Aside0.mk h2
  clear h2
  have H3 := Aside0.mk h3
  clear h3
  go_enter Try.func22, Try.ntmps22
  go_wp2_with fail
  have hW := two_alloc w #[.int .i64 e, .int .i64 s, .slice A l.length c, .int .i64 st, .int .i64 ap] #[.int .i64 0, .int .i64 0, .slice none 0 0, .int .i64 0, .int .i64 0]
  generalize (w.alloc (.cells #[.int .i64 e, .int .i64 s, .slice A l.length c, .int .i64 st, .int .i64 ap] 24)).alloc (.cells #[.int .i64 0, .int .i64 0, .slice none 0 0, .int .i64 0, .int .i64 0] 24) = W at hW ⊢
  have hgz : w.heap.size ≤ w.heap.size + 1 := Nat.le_succ _
  refine (commit_CheckSource.calls k e s A c l st ap 0 W (Kd.C_below HR.out hW.2.2) HC.out H.out).mono ?_
  rintro e' w1 ⟨rfl, hb⟩
  have HX1 := Aside0.mk (blk_below hW.1 hb)
  have HZ1 := Aside0.mk (blk_below hW.2.1 hb)
  have HB1 := Aside0.mk (below_then hW.2.2 hW.2.2.size hb)
  clear hb hW
  have HC1 := Aside0.mk (Kd.C_below HR.out HB1.out)
  by_cases hl0 : l.length = 0
  focus
    have hp : decide (0 < l.length) = false := decide_eq_false (by omega)
    obtain rfl : ap = la := by rw [HLA.out]; unfold lastOf; rw [if_pos hl0]
    clear hl0
    have hd1 : decide (cy ≤ ap) = false := decide_eq_false (by have := H1.out; omega)
    have hd2 : decide (1073741824 < cy) = false := decide_eq_false (by have := H2.out; omega)
    have hd3 : decide (1024 ≤ l.length) = true := decide_eq_true H3.out
    have hd3' : decide (1024 ≤ (l.length : Int)) = true := decide_eq_true (by have := H3.out; omega)
    have hx := HX1.out
    have hcx0 := (blk_cell hx 0).trans rfl
    have hcx1 := (blk_cell hx 1).trans rfl
    have hcx2 := (blk_cell hx 2).trans rfl
    have hcx3 := (blk_cell hx 3).trans rfl
    have hcx4 := (blk_cell hx 4).trans rfl
    have hfx0 := blk_frozen hx 0
    have hfx1 := blk_frozen hx 1
    have hfx2 := blk_frozen hx 2
    have hfx3 := blk_frozen hx 3
    have hfx4 := blk_frozen hx 4
    clear hx
    have hz := HZ1.out
    have hcz0 := (blk_cell hz 0).trans rfl
    have hcz1 := (blk_cell hz 1).trans rfl
    have hcz2 := (blk_cell hz 2).trans rfl
    have hcz3 := (blk_cell hz 3).trans rfl
    have hcz4 := (blk_cell hz 4).trans rfl
    have hfz0 := blk_frozen hz 0
    have hfz1 := blk_frozen hz 1
    have hfz2 := blk_frozen hz 2
    have hfz3 := blk_frozen hz 3
    have hfz4 := blk_frozen hz 4
    clear hz
    go_wp2
  rotate_left
  focus
    have hp : decide (0 < l.length) = true := decide_eq_true (by omega)
    obtain ⟨ji, hji⟩ : ∃ ji : Int, ji = (l.length : Int) - 1 := ⟨_, rfl⟩
    have hw : IntKind.i64.wrap ((l.length : Int) - 1) = ji := by rw [hji]; exact IntWalk.i64_in _ (by have := HLB.out; omega)
    have hw2 : wrap64 ((l.length : Int) - 1) = ji := by rw [hji]; unfold wrap64; have := HLB.out; omega
    have hp1 : (0:Int) ≤ ji := by omega
    have hp2 : ji < (l.length : Int) := by omega
    obtain ⟨ad, ea, hx⟩ := at_int HC1.out ji hp1 hp2
    have hla2 : rd l ji = la := by rw [HLA.out]; unfold lastOf; rw [if_neg hl0, hji]
    rw [hla2] at hx
    have HEA := Aside0.mk ea
    cases ea
    clear hji hla2 hl0
    replace hp1 := eq_true hp1
    replace hp2 := eq_true hp2
    have hd1 : decide (cy ≤ la) = false := decide_eq_false (by have := H1.out; omega)
    have hd2 : decide (1073741824 < cy) = false := decide_eq_false (by have := H2.out; omega)
    have hd3 : decide (1024 ≤ l.length) = true := decide_eq_true H3.out
    have hd3' : decide (1024 ≤ (l.length : Int)) = true := decide_eq_true (by have := H3.out; omega)
    have hx := HX1.out
    have hcx0 := (blk_cell hx 0).trans rfl
    have hcx1 := (blk_cell hx 1).trans rfl
    have hcx2 := (blk_cell hx 2).trans rfl
    have hcx3 := (blk_cell hx 3).trans rfl
    have hcx4 := (blk_cell hx 4).trans rfl
    have hfx0 := blk_frozen hx 0
    have hfx1 := blk_frozen hx 1
    have hfx2 := blk_frozen hx 2
    have hfx3 := blk_frozen hx 3
    have hfx4 := blk_frozen hx 4
    clear hx
    have hz := HZ1.out
    have hcz0 := (blk_cell hz 0).trans rfl
    have hcz1 := (blk_cell hz 1).trans rfl
    have hcz2 := (blk_cell hz 2).trans rfl
    have hcz3 := (blk_cell hz 3).trans rfl
    have hcz4 := (blk_cell hz 4).trans rfl
    have hfz0 := blk_frozen hz 0
    have hfz1 := blk_frozen hz 1
    have hfz2 := blk_frozen hz 2
    have hfz3 := blk_frozen hz 3
    have hfz4 := blk_frozen hz 4
    clear hz
    go_wp2
    clear hp1 hp2 hw hw2 hx
  all_goals
    refine bodyPost_ret (results_ctt rfl _ _ (w.heap.size + 1) 24 #[.int .i64 0, .int .i64 0, .slice none 0 0, .int .i64 0, .int .i64 0] (0, 0) _ rfl (blk_put5 HZ1.out) Try.underlying24 rfl (by kernel_rfl)) rfl ?_
    exact ⟨rfl, below_set5 HB1.out hgz⟩
set_option maxHeartbeats 40000000 in
set_option maxRecDepth 100000 in
theorem offer_ok (k : Nat) (e s st ap : Int) (A : Option Addr) (c : Nat) (l : List Int) (cy : Int) (w : World) (hr : Kd.C (Kd.int .i64) w A l.length l) (hc : l.length ≤ c) (h : commit_CheckSource.f k e s l st ap = some 0) (la : Int) (hla : la = lastOf ap l) (hlb : l.length ≤ 1000000) (h1 : ¬ cy ≤ la) (h2 : ¬ 1073741824 < cy) (h3 : ¬ 1024 ≤ l.length) :
    Calls Try.prog 22 #[.agg #[.int .i64 e, .int .i64 s, .slice A l.length c, .int .i64 st, .int .i64 ap], .int .i64 cy] w fun e' w' => ∃ v2_ v5_ : Value, e' = .returned (.tuple #[.agg #[.int .i64 e, .int .i64 s, v2_, .int .i64 st, .int .i64 ap], v5_, .int .i64 0]) ∧ Kd.R (Kd.int .i64) 3 w' w.heap.size (fun _ => True) v2_ (l ++ [cy]) ∧ Kd.R k53 53 w' w.heap.size (fun _ => True) v5_ [⟨8, 0, s, cy, 0, e, (), ()⟩] ∧ Below w.heap.size w w' := by
  have hu79 := Try.underlying79
  have hu24 := Try.underlying24
  have HR := Aside0.mk hr
  have HC := Aside0.mk hc
  clear hr hc
  have H := Aside0.mk h
  clear h
  have HLA := Aside0.mk hla
  clear hla
  have HLB := Aside0.mk hlb
  clear hlb
  have H1 := Aside0.mk h1
  clear h1
  have H2 := Aside0.mk h2
  clear h2
  have H3 := Aside0.mk h3
  clear h3
  go_enter Try.func22, Try.ntmps22
  go_wp2_with fail
  have hW := two_alloc w #[.int .i64 e, .int .i64 s, .slice A l.length c, .int .i64 st, .int .i64 ap] #[.int .i64 0, .int .i64 0, .slice none 0 0, .int .i64 0, .int .i64 0]
  generalize (w.alloc (.cells #[.int .i64 e, .int .i64 s, .slice A l.length c, .int .i64 st, .int .i64 ap] 24)).alloc (.cells #[.int .i64 0, .int .i64 0, .slice none 0 0, .int .i64 0, .int .i64 0] 24) = W at hW ⊢
  have hgz : w.heap.size ≤ w.heap.size + 1 := Nat.le_succ _
  refine (commit_CheckSource.calls k e s A c l st ap 0 W (Kd.C_below HR.out hW.2.2) HC.out H.out).mono ?_
  rintro e' w1 ⟨rfl, hb⟩
  have HX1 := Aside0.mk (blk_below hW.1 hb)
  have HZ1 := Aside0.mk (blk_below hW.2.1 hb)
  have HB1 := Aside0.mk (below_then hW.2.2 hW.2.2.size hb)
  clear hb hW
  have HC1 := Aside0.mk (Kd.C_below HR.out HB1.out)
  by_cases hl0 : l.length = 0
  focus
    have hp : decide (0 < l.length) = false := decide_eq_false (by omega)
    obtain rfl : ap = la := by rw [HLA.out]; unfold lastOf; rw [if_pos hl0]
    clear hl0
    have hd1 : decide (cy ≤ ap) = false := decide_eq_false (by have := H1.out; omega)
    have hd2 : decide (1073741824 < cy) = false := decide_eq_false (by have := H2.out; omega)
    have hd3 : decide (1024 ≤ l.length) = false := decide_eq_false (by have := H3.out; omega)
    have hd3' : decide (1024 ≤ (l.length : Int)) = false := decide_eq_false (by have := H3.out; omega)
    have hx := HX1.out
    have hcx0 := (blk_cell hx 0).trans rfl
    have hcx1 := (blk_cell hx 1).trans rfl
    have hcx2 := (blk_cell hx 2).trans rfl
    have hcx3 := (blk_cell hx 3).trans rfl
    have hcx4 := (blk_cell hx 4).trans rfl
    have hfx0 := blk_frozen hx 0
    have hfx1 := blk_frozen hx 1
    have hfx2 := blk_frozen hx 2
    have hfx3 := blk_frozen hx 3
    have hfx4 := blk_frozen hx 4
    clear hx
    go_wp2_with fail
  rotate_left
  focus
    have hp : decide (0 < l.length) = true := decide_eq_true (by omega)
    obtain ⟨ji, hji⟩ : ∃ ji : Int, ji = (l.length : Int) - 1 := ⟨_, rfl⟩
    have hw : IntKind.i64.wrap ((l.length : Int) - 1) = ji := by rw [hji]; exact IntWalk.i64_in _ (by have := HLB.out; omega)
    have hw2 : wrap64 ((l.length : Int) - 1) = ji := by rw [hji]; unfold wrap64; have := HLB.out; omega
    have hp1 : (0:Int) ≤ ji := by omega
    have hp2 : ji < (l.length : Int) := by omega
    obtain ⟨ad, ea, hx⟩ := at_int HC1.out ji hp1 hp2
    have hla2 : rd l ji = la := by rw [HLA.out]; unfold lastOf; rw [if_neg hl0, hji]
    rw [hla2] at hx
    have HEA := Aside0.mk ea
    cases ea
    clear hji hla2 hl0
    replace hp1 := eq_true hp1
    replace hp2 := eq_true hp2
    have hd1 : decide (cy ≤ la) = false := decide_eq_false (by have := H1.out; omega)
    have hd2 : decide (1073741824 < cy) = false := decide_eq_false (by have := H2.out; omega)
    have hd3 : decide (1024 ≤ l.length) = false := decide_eq_false (by have := H3.out; omega)
    have hd3' : decide (1024 ≤ (l.length : Int)) = false := decide_eq_false (by have := H3.out; omega)
    have hx := HX1.out
    have hcx0 := (blk_cell hx 0).trans rfl
    have hcx1 := (blk_cell hx 1).trans rfl
    have hcx2 := (blk_cell hx 2).trans rfl
    have hcx3 := (blk_cell hx 3).trans rfl
    have hcx4 := (blk_cell hx 4).trans rfl
    have hfx0 := blk_frozen hx 0
    have hfx1 := blk_frozen hx 1
    have hfx2 := blk_frozen hx 2
    have hfx3 := blk_frozen hx 3
    have hfx4 := blk_frozen hx 4
    clear hx
    go_wp2_with fail
    clear hp1 hp2 hw hw2 hx
  all_goals
    refine (commit_begin_calls e s st ap _ c l w1 HC1.out HC.out HLB.out).mono ?_
    rintro e' w2 ⟨g, v, rfl, hI, hR, hg, hb⟩
    obtain ⟨A2, c2, rfl⟩ := Kd.R_slice hR
    have HI2 := Aside0.mk hI
    have HQ2 := Aside0.mk (Kd.R_lower hR HB1.out.size)
    have HB2 := Aside0.mk (below_then HB1.out HB1.out.size hb)
    have HZ2 := Aside0.mk (blk_below HZ1.out hb)
    have HG := Aside0.mk (Nat.le_trans HB1.out.size hg)
    have HL3 : Aside0 (l.length < 1024) := ⟨by have := H3.out; omega⟩
    clear hcx0 hfx0 hcx1 hfx1 hcx2 hfx2 hcx3 hfx3 hcx4 hfx4
    clear hI hR hg hb HX1 HZ1 HB1 hd1 hd2 hd3 hd3' hp
    obtain ⟨hc0, hc1, hc2, hc3, hc4, hc5, hf0, hf1, hf2, hf3, hf4, hf5⟩ := HI2.out.cells
    go_wp2_with (first | ((with_reducible refine gate_builtin (b := .append) (xs := #[.tmp 52, .tmp 54]) rfl ?_); at_builtin; refine Kd.R_append (Kd.int .i64) (w0 := w) w.heap.size rfl (.tmp 52) (.tmp 54) 22 3 (.int .i64 0) 8 rfl Try.underlying22 info3 rfl (by decide) (by decide) (.slice A2 l.length c2) l cy [.int .i64 cy] (fun _ => True) (fun _ => False) rfl rfl rfl (fun _ h => h.elim) (fun _ _ => trivial) HQ2.out HB2.out HB2.out.size (by have := HL3.out; omega) ?_; intro v1 w3 hq hb3 hg3 ha3; obtain ⟨A3, n3, c3, rfl, hn3⟩ : ∃ A3 n3 c3, v1 = .slice A3 n3 c3 ∧ n3 = (l ++ [cy]).length := (by obtain ⟨A1, c1, h⟩ := Kd.R_slice hq; exact ⟨A1, _, c1, h, rfl⟩); have HQ3 := Aside0.mk hq; have HB3 := Aside0.mk hb3; have HI3 := Aside0.mk (show StC w3 g e s (.slice A2 l.length c2) st ap (.slice none 0 0) from blk_grown HI2.out hg3 (Kd.R_ne HQ2.out HI2.out (by decide))); have HZ3 := Aside0.mk (blk_grown HZ2.out hg3 (Kd.R_ne HQ2.out HZ2.out (by decide))); have HN3 := Aside0.mk hn3; clear hq hb3 hg3 ha3 hn3 HI2 HQ2 HB2 HZ2 hc0 hc1 hc2 hc3 hc4 hc5 hf0 hf1 hf2 hf3 hf4 hf5; obtain ⟨hc0, hc1, hc2, hc3, hc4, hc5, hf0, hf1, hf2, hf3, hf4, hf5⟩ := HI3.out.cells))
    have HI4 := Aside0.mk (show StC (w3.setCell ⟨g, 2, none⟩ (.slice A3 n3 c3)) g e s (.slice A3 n3 c3) st ap (.slice none 0 0) from blk_put HI3.out 2 _ rfl)
    have HQ4 := Aside0.mk (Kd.R_set HQ3.out HI3.out (by decide) 2 (.slice A3 n3 c3))
    have HB4 := Aside0.mk (below_set (j := 2) (v := .slice A3 n3 c3) HB3.out HG.out)
    have HZ4 := Aside0.mk (blk_far HZ3.out (p := ⟨g, 2, none⟩) (blk_ne HZ3.out HI3.out (by decide)) (.slice A3 n3 c3))
    generalize w3.setCell ⟨g, 2, none⟩ (.slice A3 n3 c3) = w4 at HI4 HQ4 HB4 HZ4 ⊢
    clear HI3 HQ3 HB3 HZ3 hc0 hc1 hc2 hc3 hc4 hc5 hf0 hf1 hf2 hf3 hf4 hf5
    refine (commit_send_calls g e s st ap _ _ [] 8 cy (fun _ => True) w w4 HI4.out HG.out HB4.out (Kd.R_nil _ _ _ _ _) (by simp) (fun _ _ => trivial)).mono ?_
    rintro e' w7 ⟨u, rfl, hI, hR, hb, hk⟩
    obtain ⟨A6, n6, c6, rfl, hn6⟩ : ∃ A6 n6 c6, u = .slice A6 n6 c6 ∧ n6 = ([] ++ [(⟨8, 0, s, cy, 0, e, (), ()⟩ : S53)]).length := (by obtain ⟨A1, c1, h⟩ := Kd.R_slice hR; exact ⟨A1, _, c1, h, rfl⟩)
    have HI7 := Aside0.mk hI
    have HQ7 := Aside0.mk (R_kq HQ4.out hk (by decide))
    have HR7 := Aside0.mk hR
    have HB7 := Aside0.mk hb
    have HZ8 := Aside0.mk (hk _ _ _ (by decide) HZ4.out)
    clear hI hR hb hk hn6 HI4 HQ4 HB4 HZ4
    obtain ⟨hc0, hc1, hc2, hc3, hc4, hc5, hf0, hf1, hf2, hf3, hf4, hf5⟩ := HI7.out.cells
    go_wp2
    clear hc0 hc1 hc2 hc3 hc4 hc5 hf0 hf1 hf2 hf3 hf4 hf5
    refine start_ (n := 11) (S := fun w' => w'.cell? ⟨g, 0, none⟩ = some (.int .i64 e) ∧ w'.cell? ⟨g, 1, none⟩ = some (.int .i64 s) ∧ w'.cell? ⟨g, 2, none⟩ = some (.slice A3 n3 c3) ∧ w'.cell? ⟨g, 3, none⟩ = some (.int .i64 st) ∧ w'.cell? ⟨g, 4, none⟩ = some (.int .i64 ap) ∧ w'.cell? ⟨g, 5, none⟩ = some (.slice A6 n6 c6) ∧ Aside0 (StC w' g e s (.slice A3 n3 c3) st ap (.slice A6 n6 c6)) ∧ Aside0 (Kd.R (Kd.int .i64) 3 w' w.heap.size (fun _ => True) (.slice A3 n3 c3) (l ++ [cy])) ∧ Aside0 (Kd.R k53 53 w' w.heap.size (fun _ => True) (.slice A6 n6 c6) [⟨8, 0, s, cy, 0, e, (), ()⟩]) ∧ Aside0 (Below w.heap.size w w')) (ds := []) #[false, false, false, false, false, false, false, false, false, false, false] (by kernel_rfl) rfl rfl ⟨HI7.out.drew.cells.1, HI7.out.drew.cells.2.1, HI7.out.drew.cells.2.2.1, HI7.out.drew.cells.2.2.2.1, HI7.out.drew.cells.2.2.2.2.1, HI7.out.drew.cells.2.2.2.2.2.1, ⟨HI7.out.drew⟩, ⟨Kd.R_drew HQ7.out⟩, ⟨Kd.R_drew HR7.out⟩, ⟨below_drew1 HB7.out⟩⟩ (fun hHeld => ?_)
    refine pure_ (i := 0) (N := some 62) (v := ?_) (a' := ?_) #[true, false, false, false, false, false, false, false, false, false, false] rfl rfl (by kernel_rfl) (fun _ _ _ h => h) (Or.inl ⟨by rfl, ?_⟩) ?_ ?_
    rotate_left
    · intro w'
      go_simp
      with_reducible rfl
    rotate_left
    · simp only [Act.put, List.setIfInBounds_toArray, List.set_cons_zero, List.set_cons_succ, i64_w, i32_w]
      rfl
    refine pure_ (i := 1) (N := some 63) (v := ?_) (a' := ?_) #[true, true, false, false, false, false, false, false, false, false, false] rfl rfl (by kernel_rfl) (fun _ _ _ h => h) (Or.inl ⟨by rfl, ?_⟩) ?_ ?_
    rotate_left
    · intro w'
      go_simp
      with_reducible rfl
    rotate_left
    · simp only [Act.put, List.setIfInBounds_toArray, List.set_cons_zero, List.set_cons_succ, i64_w, i32_w]
      rfl
    refine pure_ (i := 2) (N := some 64) (v := ?_) (a' := ?_) #[true, true, true, false, false, false, false, false, false, false, false] rfl rfl (by kernel_rfl) (fun _ _ _ h => h) (Or.inl ⟨by rfl, ?_⟩) ?_ ?_
    rotate_left
    · intro w'
      go_simp
      with_reducible rfl
    rotate_left
    · simp only [Act.put, List.setIfInBounds_toArray, List.set_cons_zero, List.set_cons_succ, i64_w, i32_w]
      rfl
    refine pure_ (i := 4) (N := some 66) (v := ?_) (a' := ?_) #[true, true, true, false, true, false, false, false, false, false, false] rfl rfl (by kernel_rfl) (fun _ _ _ h => h) (Or.inl ⟨by rfl, ?_⟩) ?_ ?_
    rotate_left
    · intro w'
      go_simp
      with_reducible rfl
    rotate_left
    · simp only [Act.put, List.setIfInBounds_toArray, List.set_cons_zero, List.set_cons_succ, i64_w, i32_w]
      rfl
    refine pure_ (i := 5) (N := some 67) (v := ?_) (a' := ?_) #[true, true, true, false, true, true, false, false, false, false, false] rfl rfl (by kernel_rfl) (fun _ _ _ h => h) (Or.inl ⟨by rfl, ?_⟩) ?_ ?_
    rotate_left
    · intro w'
      go_simp
      with_reducible rfl
    rotate_left
    · simp only [Act.put, List.setIfInBounds_toArray, List.set_cons_zero, List.set_cons_succ, i64_w, i32_w]
      rfl
    refine pure_ (i := 6) (N := some 68) (v := ?_) (a' := ?_) #[true, true, true, false, true, true, true, false, false, false, false] rfl rfl (by kernel_rfl) (fun _ _ _ h => h) (Or.inl ⟨by rfl, ?_⟩) ?_ ?_
    rotate_left
    · intro w'
      go_simp
      with_reducible rfl
    rotate_left
    · simp only [Act.put, List.setIfInBounds_toArray, List.set_cons_zero, List.set_cons_succ, i64_w, i32_w]
      rfl
    refine take_ (i := 3) (N := some 65) (v := ?_) (a' := ?_) #[true, true, true, true, true, true, true, false, false, false, false] rfl rfl (by kernel_rfl) (fun _ _ _ h => h) (Or.inl ⟨by rfl, ?_⟩) hHeld ?_ ?_
    rotate_left
    · rintro w' ⟨s0, s1, s2, s3, s4, s5, s6, s7, s8, s9⟩
      go_simp
      with_reducible rfl
    rotate_left
    · simp only [Act.put, List.setIfInBounds_toArray, List.set_cons_zero, List.set_cons_succ, i64_w, i32_w]
      rfl
    refine take_ (i := 7) (N := some 69) (v := ?_) (a' := ?_) #[true, true, true, true, true, true, true, true, false, false, false] rfl rfl (by kernel_rfl) (fun _ _ _ h => h) (Or.inl ⟨by rfl, ?_⟩) hHeld ?_ ?_
    rotate_left
    · rintro w' ⟨s0, s1, s2, s3, s4, s5, s6, s7, s8, s9⟩
      go_simp
      with_reducible rfl
    rotate_left
    · simp only [Act.put, List.setIfInBounds_toArray, List.set_cons_zero, List.set_cons_succ, i64_w, i32_w]
      rfl
    refine one_ (i := 8) (N := none) #[true, true, true, true, true, true, true, true, true, false, false] rfl rfl (by kernel_rfl) (by decide) (fun K hK => ?_)
    clear hHeld
    have hz := HZ8.out
    have hcz0 := (blk_cell hz 0).trans rfl
    have hcz1 := (blk_cell hz 1).trans rfl
    have hcz2 := (blk_cell hz 2).trans rfl
    have hcz3 := (blk_cell hz 3).trans rfl
    have hcz4 := (blk_cell hz 4).trans rfl
    have hfz0 := blk_frozen hz 0
    have hfz1 := blk_frozen hz 1
    have hfz2 := blk_frozen hz 2
    have hfz3 := blk_frozen hz 3
    have hfz4 := blk_frozen hz 4
    clear hz
    refine skip_ (w1 := ?_) (by rfl) rfl ?_ ?_
    rotate_left
    · go_simp
      rfl
    have HK10 := Aside0.mk (kq_set5 (v0 := .int .i64 e) (v1 := .int .i64 s) (v2 := .slice A3 n3 c3) (v3 := .int .i64 st) (v4 := .int .i64 ap) (Kq.refl (fun t => t ≠ 24) _) HZ8.out (fun h => h rfl))
    have HI10 := Aside0.mk (StC.drew (show StC _ g e s (.slice A3 n3 c3) st ap (.slice A6 n6 c6) from HK10.out _ _ _ (by decide) HI7.out))
    have HQ10 := Aside0.mk (Kd.R_drew (R_kq HQ7.out HK10.out (by decide)))
    have HR10 := Aside0.mk (Kd.R_drew (R_kq HR7.out HK10.out (by decide)))
    have HB10 := Aside0.mk (below_drew1 (below_set5 (v0 := .int .i64 e) (v1 := .int .i64 s) (v2 := .slice A3 n3 c3) (v3 := .int .i64 st) (v4 := .int .i64 ap) HB7.out hgz))
    clear HK10
    refine hK.out _ _ ⟨HI10.out.cells.1, HI10.out.cells.2.1, HI10.out.cells.2.2.1, HI10.out.cells.2.2.2.1, HI10.out.cells.2.2.2.2.1, HI10.out.cells.2.2.2.2.2.1, HI10, HQ10, HR10, HB10⟩ (fun hHeld => ?_)
    clear hK K
    refine pure_ (i := 9) (N := some 5) (v := ?_) (a' := ?_) #[true, true, true, true, true, true, true, true, true, true, false] rfl rfl (by kernel_rfl) (fun _ _ _ h => h) (Or.inl ⟨by rfl, ?_⟩) ?_ ?_
    rotate_left
    · intro w'
      go_simp
      with_reducible rfl
    rotate_left
    · simp only [Act.put, List.setIfInBounds_toArray, List.set_cons_zero, List.set_cons_succ, i64_w, i32_w]
      rfl
    refine pure_ (i := 10) (N := some 6) (v := ?_) (a' := ?_) #[true, true, true, true, true, true, true, true, true, true, true] rfl rfl (by kernel_rfl) (fun _ _ _ h => h) (Or.inl ⟨by rfl, ?_⟩) ?_ ?_
    rotate_left
    · intro w'
      go_simp
      with_reducible rfl
    rotate_left
    · simp only [Act.put, List.setIfInBounds_toArray, List.set_cons_zero, List.set_cons_succ, i64_w, i32_w]
      rfl
    refine done_ (by kernel_rfl) ?_
    obtain ⟨-, -, -, -, -, -, HI11, HQ11, HR11, HB11⟩ := hHeld
    go_wp2
    refine bodyPost_ret (results_ctt rfl _ _ (w.heap.size + 1) 24 #[.int .i64 e, .int .i64 s, .slice A3 n3 c3, .int .i64 st, .int .i64 ap] (0, 0) _ rfl (blk_put5 HZ8.out) Try.underlying24 rfl (by kernel_rfl)) rfl ?_
    exact ⟨_, _, rfl, HQ11.out, HR11.out, HB11.out⟩
def commit_Offer.f (k : Nat) (a0_0 : Int) (a0_1 : Int) (l0_2 : List Int) (a0_3 : Int) (a0_4 : Int) (a1 : Int) : Option (Int × Int × List Int × Int × Int × (List (S53)) × Int) :=
  if l0_2.length ≤ 100000 then (commit_CheckSource.f k a0_0 a0_1 l0_2 a0_3 a0_4).bind fun e => if e = 0 then (if a1 ≤ lastOf a0_4 l0_2 then some (0, 0, [], 0, 0, [], 8) else if 1073741824 < a1 then some (0, 0, [], 0, 0, [], 2) else if 1024 ≤ l0_2.length then some (0, 0, [], 0, 0, [], 6) else some (a0_0, a0_1, l0_2 ++ [a1], a0_3, a0_4, [⟨8, 0, a0_1, a1, 0, a0_0, (), ()⟩], 0)) else some (0, 0, [], 0, 0, [], e) else none
theorem commit_Offer.mono : ∀ a0 a1 a2 a3 a4 a5 k, LeO (commit_Offer.f k a0 a1 a2 a3 a4 a5) (commit_Offer.f (k + 1) a0 a1 a2 a3 a4 a5) := by
  intro a0 a1 a2 a3 a4 a5 k
  unfold commit_Offer.f
  repeat' first
    | exact LeO.refl _
    | exact LeO.none _
    | exact commit_CheckSource.mono _ _ _ _ _ _
    | refine LeO.ite ?_ ?_
    | refine LeO.bind ?_ (fun _ => ?_)
theorem commit_Offer.calls (k : Nat) (a0_0 : Int) (a0_1 : Int) (A0_2 : Option Addr) (c0_2 : Nat) (l0_2 : List Int) (a0_3 : Int) (a0_4 : Int) (a1 : Int) (r1 : Int) (r2 : Int) (r3 : List Int) (r4 : Int) (r5 : Int) (r6 : List (S53)) (r7 : Int) (w : World) (hr0_2 : Kd.C (Kd.int .i64) w A0_2 l0_2.length l0_2) (hc0_2 : l0_2.length ≤ c0_2) (h : commit_Offer.f k a0_0 a0_1 l0_2 a0_3 a0_4 a1 = some (r1, r2, r3, r4, r5, r6, r7)) :
    Calls Try.prog 22 #[.agg #[.int .i64 a0_0, .int .i64 a0_1, .slice A0_2 l0_2.length c0_2, .int .i64 a0_3, .int .i64 a0_4], .int .i64 a1] w fun e w' => ∃ v2_ v5_ : Value, e = .returned (.tuple #[.agg #[.int .i64 r1, .int .i64 r2, v2_, .int .i64 r4, .int .i64 r5], v5_, .int .i64 r7]) ∧ Kd.R (Kd.int .i64) 3 w' w.heap.size (fun _ => True) v2_ r3 ∧ Kd.R k53 53 w' w.heap.size (fun _ => True) v5_ r6 ∧ Below w.heap.size w w' := by
  unfold commit_Offer.f at h
  by_cases hl : l0_2.length ≤ 100000
  rotate_left
  · rw [if_neg hl] at h; cases h
  rw [if_pos hl] at h
  obtain ⟨e, he, h⟩ := Option.bind_eq_some_iff.1 h
  by_cases h0 : e = 0
  rotate_left
  · rw [if_neg h0] at h
    simp only [Option.some.injEq, Prod.mk.injEq] at h
    obtain ⟨rfl, rfl, rfl, rfl, rfl, rfl, rfl⟩ := h
    exact (offer_err k a0_0 a0_1 a0_3 a0_4 A0_2 c0_2 l0_2 a1 e w hr0_2 hc0_2 he h0).mono fun _ _ hh => ⟨_, _, hh.1, Kd.R_nil _ _ _ _ _, Kd.R_nil _ _ _ _ _, hh.2⟩
  rw [if_pos h0] at h
  subst h0
  by_cases h1 : a1 ≤ lastOf a0_4 l0_2
  · rw [if_pos h1] at h
    simp only [Option.some.injEq, Prod.mk.injEq] at h
    obtain ⟨rfl, rfl, rfl, rfl, rfl, rfl, rfl⟩ := h
    exact (offer_twice k a0_0 a0_1 a0_3 a0_4 A0_2 c0_2 l0_2 a1 w hr0_2 hc0_2 he _ rfl (by omega) h1).mono fun _ _ hh => ⟨_, _, hh.1, Kd.R_nil _ _ _ _ _, Kd.R_nil _ _ _ _ _, hh.2⟩
  rw [if_neg h1] at h
  by_cases h2 : 1073741824 < a1
  · rw [if_pos h2] at h
    simp only [Option.some.injEq, Prod.mk.injEq] at h
    obtain ⟨rfl, rfl, rfl, rfl, rfl, rfl, rfl⟩ := h
    exact (offer_range k a0_0 a0_1 a0_3 a0_4 A0_2 c0_2 l0_2 a1 w hr0_2 hc0_2 he _ rfl (by omega) h1 h2).mono fun _ _ hh => ⟨_, _, hh.1, Kd.R_nil _ _ _ _ _, Kd.R_nil _ _ _ _ _, hh.2⟩
  rw [if_neg h2] at h
  by_cases h3 : 1024 ≤ l0_2.length
  · rw [if_pos h3] at h
    simp only [Option.some.injEq, Prod.mk.injEq] at h
    obtain ⟨rfl, rfl, rfl, rfl, rfl, rfl, rfl⟩ := h
    exact (offer_many k a0_0 a0_1 a0_3 a0_4 A0_2 c0_2 l0_2 a1 w hr0_2 hc0_2 he _ rfl (by omega) h1 h2 h3).mono fun _ _ hh => ⟨_, _, hh.1, Kd.R_nil _ _ _ _ _, Kd.R_nil _ _ _ _ _, hh.2⟩
  rw [if_neg h3] at h
  simp only [Option.some.injEq, Prod.mk.injEq] at h
  obtain ⟨rfl, rfl, rfl, rfl, rfl, rfl, rfl⟩ := h
  exact offer_ok k a0_0 a0_1 a0_3 a0_4 A0_2 c0_2 l0_2 a1 w hr0_2 hc0_2 he _ rfl (by omega) h1 h2 h3
end Go.Proofs.Ytedoloapddmanaa.PB
