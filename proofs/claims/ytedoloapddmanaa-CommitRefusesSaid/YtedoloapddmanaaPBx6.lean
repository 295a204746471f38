-- Written by a program of this session (wip/tools) over the kit's print.
import Derived.Test.YtedoloapddmanaaPBx0
import Derived.Test.YtedoloapddmanaaSh
import Derived.Test.YtedoloapddmanaaPBx3
import Derived.Test.YtedoloapddmanaaPBx5
namespace Go.Proofs.Ytedoloapddmanaa.PB
open Go.RowKit Go.Proofs.YtedoloapddmanaaW.PrintWords Go.Proofs.YtedoloapddmanaaW.PrintLast Go.Proofs.YtedoloapddmanaaW.PrintMore
attribute [local go_sem] max2_int min2_int max_two min_two max_three min_three max_four min_four   -- for this text's walks alone
set_option linter.unusedVariables false
set_option linter.unusedSimpArgs false
set_option maxHeartbeats 8000000 in
set_option maxRecDepth 100000 in
theorem commit_send_calls (g : Nat) (e s st ap : Int) (v u : Value) (ms : List S53) (kd cy : Int) (ok : Nat → Prop) (w0 w : World) (hI : StC w g e s v st ap u) (hg : w0.heap.size ≤ g) (hB : Below w0.heap.size w0 w) (hR : Kd.R k53 53 w w0.heap.size ok u ms) (hl : ms.length ≤ 1000000) (hok : ∀ k, w.heap.size ≤ k → ok k) :
    Calls Try.prog 47 #[.pointer (some ⟨g, 0, none⟩), .int .i64 kd, .int .i64 cy] w fun e' w' => ∃ u', e' = .returned (.tuple #[]) ∧ StC w' g e s v st ap u' ∧ Kd.R k53 53 w' w0.heap.size ok u' (ms ++ [(⟨kd, 0, s, cy, 0, e, (), ()⟩ : S53)]) ∧ Below w0.heap.size w0 w' ∧ Kq (fun t => t ≠ 53 ∧ t ≠ 79) w w' := by
  have hu79 := Try.underlying79
  have hu53 := Try.underlying53
  have hu24 := Try.underlying24
  have HSZ : Aside0 ((ms.length + 1) * 96 ≤ 140737488355328) := ⟨by omega⟩
  have HI := Aside0.mk (show StC w.drew g e s v st ap u from hI)
  have HB := Aside0.mk (below_drew1 hB)
  have HR := Aside0.mk (Kd.R_drew hR)
  have HG := Aside0.mk hg
  have HK := Aside0.mk (show Kq (fun t => t ≠ 53 ∧ t ≠ 79) w w.drew from Kq.refl _ w)
  have HOK := Aside0.mk hok
  clear hI hB hR hl hg hok
  go_enter Try.func47, Try.ntmps47
  go_wp2
  refine start_ (n := 23) (S := fun w' => w'.cell? ⟨g, 0, none⟩ = some (.int .i64 e) ∧ w'.cell? ⟨g, 1, none⟩ = some (.int .i64 s) ∧ w'.cell? ⟨g, 2, none⟩ = some (v) ∧ w'.cell? ⟨g, 3, none⟩ = some (.int .i64 st) ∧ w'.cell? ⟨g, 4, none⟩ = some (.int .i64 ap) ∧ w'.cell? ⟨g, 5, none⟩ = some (u)) (ds := [19, 22]) #[false, false, false, false, false, false, false, false, false, false, false, false, false, false, false, false, false, false, false, false, false, false, false] (by kernel_rfl) rfl rfl ⟨HI.out.cells.1, HI.out.cells.2.1, HI.out.cells.2.2.1, HI.out.cells.2.2.2.1, HI.out.cells.2.2.2.2.1, HI.out.cells.2.2.2.2.2.1⟩ (fun hHeld => ?_)
  refine pure_ (i := 0) (N := some 6) (v := ?_) (a' := ?_) #[true, false, false, false, false, false, false, false, false, false, false, false, false, false, false, false, false, false, false, false, false, false, false] rfl rfl (by kernel_rfl) (fun _ _ _ h => h) (Or.inl ⟨by rfl, ?_⟩) ?_ ?_
  rotate_left
  · intro w'
    go_simp
    with_reducible rfl
  rotate_left
  · simp only [Act.put, List.setIfInBounds_toArray, List.set_cons_zero, List.set_cons_succ, i64_w, i32_w]
    rfl
  refine pure_ (i := 1) (N := some 7) (v := ?_) (a' := ?_) #[true, true, false, false, false, false, false, false, false, false, false, false, false, false, false, false, false, false, false, false, false, false, false] rfl rfl (by kernel_rfl) (fun _ _ _ h => h) (Or.inl ⟨by rfl, ?_⟩) ?_ ?_
  rotate_left
  · intro w'
    go_simp
    with_reducible rfl
  rotate_left
  · simp only [Act.put, List.setIfInBounds_toArray, List.set_cons_zero, List.set_cons_succ, i64_w, i32_w]
    rfl
  refine pure_ (i := 2) (N := some 8) (v := ?_) (a' := ?_) #[true, true, true, false, false, false, false, false, false, false, false, false, false, false, false, false, false, false, false, false, false, false, false] rfl rfl (by kernel_rfl) (fun _ _ _ h => h) (Or.inl ⟨by rfl, ?_⟩) ?_ ?_
  rotate_left
  · intro w'
    go_simp
    with_reducible rfl
  rotate_left
  · simp only [Act.put, List.setIfInBounds_toArray, List.set_cons_zero, List.set_cons_succ, i64_w, i32_w]
    rfl
  refine pure_ (i := 3) (N := some 9) (v := ?_) (a' := ?_) #[true, true, true, true, false, false, false, false, false, false, false, false, false, false, false, false, false, false, false, false, false, false, false] rfl rfl (by kernel_rfl) (fun _ _ _ h => h) (Or.inl ⟨by rfl, ?_⟩) ?_ ?_
  rotate_left
  · intro w'
    go_simp
    with_reducible rfl
  rotate_left
  · simp only [Act.put, List.setIfInBounds_toArray, List.set_cons_zero, List.set_cons_succ, i64_w, i32_w]
    rfl
  refine pure_ (i := 5) (N := some 11) (v := ?_) (a' := ?_) #[true, true, true, true, false, true, false, false, false, false, false, false, false, false, false, false, false, false, false, false, false, false, false] rfl rfl (by kernel_rfl) (fun _ _ _ h => h) (Or.inl ⟨by rfl, ?_⟩) ?_ ?_
  rotate_left
  · intro w'
    go_simp
    with_reducible rfl
  rotate_left
  · simp only [Act.put, List.setIfInBounds_toArray, List.set_cons_zero, List.set_cons_succ, i64_w, i32_w]
    rfl
  refine pure_ (i := 6) (N := some 12) (v := ?_) (a' := ?_) #[true, true, true, true, false, true, true, false, false, false, false, false, false, false, false, false, false, false, false, false, false, false, false] rfl rfl (by kernel_rfl) (fun _ _ _ h => h) (Or.inl ⟨by rfl, ?_⟩) ?_ ?_
  rotate_left
  · intro w'
    go_simp
    with_reducible rfl
  rotate_left
  · simp only [Act.put, List.setIfInBounds_toArray, List.set_cons_zero, List.set_cons_succ, i64_w, i32_w]
    rfl
  refine pure_ (i := 7) (N := some 13) (v := ?_) (a' := ?_) #[true, true, true, true, false, true, true, true, false, false, false, false, false, false, false, false, false, false, false, false, false, false, false] rfl rfl (by kernel_rfl) (fun _ _ _ h => h) (Or.inl ⟨by rfl, ?_⟩) ?_ ?_
  rotate_left
  · intro w'
    go_simp
    with_reducible rfl
  rotate_left
  · simp only [Act.put, List.setIfInBounds_toArray, List.set_cons_zero, List.set_cons_succ, i64_w, i32_w]
    rfl
  refine pure_ (i := 8) (N := some 14) (v := ?_) (a' := ?_) #[true, true, true, true, false, true, true, true, true, false, false, false, false, false, false, false, false, false, false, false, false, false, false] rfl rfl (by kernel_rfl) (fun _ _ _ h => h) (Or.inl ⟨by rfl, ?_⟩) ?_ ?_
  rotate_left
  · intro w'
    go_simp
    with_reducible rfl
  rotate_left
  · simp only [Act.put, List.setIfInBounds_toArray, List.set_cons_zero, List.set_cons_succ, i64_w, i32_w]
    rfl
  refine pure_ (i := 9) (N := some 15) (v := ?_) (a' := ?_) #[true, true, true, true, false, true, true, true, true, true, false, false, false, false, false, false, false, false, false, false, false, false, false] rfl rfl (by kernel_rfl) (fun _ _ _ h => h) (Or.inl ⟨by rfl, ?_⟩) ?_ ?_
  rotate_left
  · intro w'
    go_simp
    with_reducible rfl
  rotate_left
  · simp only [Act.put, List.setIfInBounds_toArray, List.set_cons_zero, List.set_cons_succ, i64_w, i32_w]
    rfl
  refine pure_ (i := 11) (N := some 17) (v := ?_) (a' := ?_) #[true, true, true, true, false, true, true, true, true, true, false, true, false, false, false, false, false, false, false, false, false, false, false] rfl rfl (by kernel_rfl) (fun _ _ _ h => h) (Or.inl ⟨by rfl, ?_⟩) ?_ ?_
  rotate_left
  · intro w'
    go_simp
    with_reducible rfl
  rotate_left
  · simp only [Act.put, List.setIfInBounds_toArray, List.set_cons_zero, List.set_cons_succ, i64_w, i32_w]
    rfl
  refine pure_ (i := 12) (N := some 18) (v := ?_) (a' := ?_) #[true, true, true, true, false, true, true, true, true, true, false, true, true, false, false, false, false, false, false, false, false, false, false] rfl rfl (by kernel_rfl) (fun _ _ _ h => h) (Or.inl ⟨by rfl, ?_⟩) ?_ ?_
  rotate_left
  · intro w'
    go_simp
    with_reducible rfl
  rotate_left
  · simp only [Act.put, List.setIfInBounds_toArray, List.set_cons_zero, List.set_cons_succ, i64_w, i32_w]
    rfl
  refine pure_ (i := 13) (N := some 19) (v := ?_) (a' := ?_) #[true, true, true, true, false, true, true, true, true, true, false, true, true, true, false, false, false, false, false, false, false, false, false] rfl rfl (by kernel_rfl) (fun _ _ _ h => h) (Or.inl ⟨by rfl, ?_⟩) ?_ ?_
  rotate_left
  · intro w'
    go_simp
    with_reducible rfl
  rotate_left
  · simp only [Act.put, List.setIfInBounds_toArray, List.set_cons_zero, List.set_cons_succ, i64_w, i32_w]
    rfl
  refine pure_ (i := 14) (N := some 20) (v := ?_) (a' := ?_) #[true, true, true, true, false, true, true, true, true, true, false, true, true, true, true, false, false, false, false, false, false, false, false] rfl rfl (by kernel_rfl) (fun _ _ _ h => h) (Or.inl ⟨by rfl, ?_⟩) ?_ ?_
  rotate_left
  · intro w'
    go_simp
    with_reducible rfl
  rotate_left
  · simp only [Act.put, List.setIfInBounds_toArray, List.set_cons_zero, List.set_cons_succ, i64_w, i32_w]
    rfl
  refine pure_ (i := 15) (N := some 21) (v := ?_) (a' := ?_) #[true, true, true, true, false, true, true, true, true, true, false, true, true, true, true, true, false, false, false, false, false, false, false] rfl rfl (by kernel_rfl) (fun _ _ _ h => h) (Or.inl ⟨by rfl, ?_⟩) ?_ ?_
  rotate_left
  · intro w'
    go_simp
    with_reducible rfl
  rotate_left
  · simp only [Act.put, List.setIfInBounds_toArray, List.set_cons_zero, List.set_cons_succ, i64_w, i32_w]
    rfl
  refine take_ (i := 4) (N := some 10) (v := ?_) (a' := ?_) #[true, true, true, true, true, true, true, true, true, true, false, true, true, true, true, true, false, false, false, false, false, false, false] rfl rfl (by kernel_rfl) (fun _ _ _ h => h) (Or.inl ⟨by rfl, ?_⟩) hHeld ?_ ?_
  rotate_left
  · rintro w' ⟨s0, s1, s2, s3, s4, s5⟩
    go_simp
    with_reducible rfl
  rotate_left
  · simp only [Act.put, List.setIfInBounds_toArray, List.set_cons_zero, List.set_cons_succ, i64_w, i32_w]
    rfl
  refine take_ (i := 10) (N := some 16) (v := ?_) (a' := ?_) #[true, true, true, true, true, true, true, true, true, true, true, true, true, true, true, true, false, false, false, false, false, false, false] rfl rfl (by kernel_rfl) (fun _ _ _ h => h) (Or.inl ⟨by rfl, ?_⟩) hHeld ?_ ?_
  rotate_left
  · rintro w' ⟨s0, s1, s2, s3, s4, s5⟩
    go_simp
    with_reducible rfl
  rotate_left
  · simp only [Act.put, List.setIfInBounds_toArray, List.set_cons_zero, List.set_cons_succ, i64_w, i32_w]
    rfl
  refine take_ (i := 16) (N := some 22) (v := ?_) (a' := ?_) #[true, true, true, true, true, true, true, true, true, true, true, true, true, true, true, true, true, false, false, false, false, false, false] rfl rfl (by kernel_rfl) (fun _ _ _ h => h) (Or.inl ⟨by rfl, ?_⟩) hHeld ?_ ?_
  rotate_left
  · rintro w' ⟨s0, s1, s2, s3, s4, s5⟩
    go_simp
    with_reducible rfl
  rotate_left
  · simp only [Act.put, List.setIfInBounds_toArray, List.set_cons_zero, List.set_cons_succ, i64_w, i32_w]
    rfl
  refine pure_ (i := 17) (N := some 23) (v := ?_) (a' := ?_) #[true, true, true, true, true, true, true, true, true, true, true, true, true, true, true, true, true, true, false, false, false, false, false] rfl rfl (by kernel_rfl) (fun _ _ _ h => h) (Or.inl ⟨by rfl, ?_⟩) ?_ ?_
  rotate_left
  · intro w'
    go_simp
    with_reducible rfl
  rotate_left
  · simp only [Act.put, List.setIfInBounds_toArray, List.set_cons_zero, List.set_cons_succ, i64_w, i32_w]
    rfl
  refine one_ (i := 18) (N := some 24) #[true, true, true, true, true, true, true, true, true, true, true, true, true, true, true, true, true, true, true, false, false, false, false] rfl rfl (by kernel_rfl) (by decide) (fun K hK => ?_)
  refine value_ (w1 := w.drew.alloc (.cells #[.int .i64 kd, .int .i64 0, .int .i64 s, .int .i64 cy, .int .i64 0, .int .i64 e, .slice none 0 0, .slice none 0 0] 53)) (v := .slice (some ⟨w.drew.heap.size, 0, none⟩) 1 1) (by rfl) rfl ?_ ?_
  · first | (go_simp; done) | (go_simp; rfl)
  refine hK.out _ _ ⟨(blk_cell (blk_alloc HI.out _) 0).trans rfl, (blk_cell (blk_alloc HI.out _) 1).trans rfl, (blk_cell (blk_alloc HI.out _) 2).trans rfl, (blk_cell (blk_alloc HI.out _) 3).trans rfl, (blk_cell (blk_alloc HI.out _) 4).trans rfl, (blk_cell (blk_alloc HI.out _) 5).trans rfl⟩ (fun hHeld => ?_)
  clear hK K
  refine norm_ (a' := ?_) ?_ ?_
  rotate_left
  · show Act.put _ (some 24) _ = _
    simp only [Act.put, List.setIfInBounds_toArray, List.set_cons_zero, List.set_cons_succ, i64_w, i32_w]
    rfl
  refine last_ (i := 19) (N := some 25) #[true, true, true, true, true, true, true, true, true, true, true, true, true, true, true, true, true, true, true, true, false, false, false] rfl rfl (by kernel_rfl) (by decide) (fun K hK => ?_)
  refine Kd.R_append_step k53 (w0 := w0) w0.heap.size (by rfl) (.tmp 10) (.tmp 24) 43 53 (.agg #[.int .i64 0, .int .i64 0, .int .i64 0, .int .i64 0, .int .i64 0, .int .i64 0, .slice none 0 0, .slice none 0 0]) 96 rfl Try.underlying43 info53 rfl (by decide) (by decide) u ms (⟨kd, 0, s, cy, 0, e, (), ()⟩ : S53) [.int .i64 kd, .int .i64 0, .int .i64 s, .int .i64 cy, .int .i64 0, .int .i64 e, .slice none 0 0, .slice none 0 0] ok (fun _ => False) rfl rfl (k53_mkM _ _ _ (⟨kd, 0, s, cy, 0, e, (), ()⟩ : S53)) (fun _ hk => hk.elim) HOK.out HR.out HB.out HB.out.size HSZ.out ?_
  intro v1 w6 hq hb6 hg6 ha6
  obtain ⟨A1, n1, c1, rfl, hn1⟩ : ∃ A1 n1 c1, v1 = .slice A1 n1 c1 ∧ n1 = (ms ++ [(⟨kd, 0, s, cy, 0, e, (), ()⟩ : S53)]).length := (by obtain ⟨A1, c1, h⟩ := Kd.R_slice hq; exact ⟨A1, _, c1, h, rfl⟩)
  have HNN := Aside0.mk hn1; clear hn1
  have HQ6 := Aside0.mk hq; have HB6 := Aside0.mk hb6
  have HI6 := Aside0.mk (show StC w6 g e s v st ap u from blk_grown HI.out hg6 (Kd.R_ne HR.out HI.out (by decide)))
  have HK6 := Aside0.mk (HK.out.grown hg6 (fun k cs t hT hk => Kd.R_ne HR.out hk (fun h => hT.1 h.symm)))
  clear hq hb6 hg6 ha6 HI HR HB HK
  refine hK.out _ _ ?_
  clear hK K
  refine norm_ (a' := ?_) ?_ ?_
  rotate_left
  · show Act.put _ (some 25) _ = _
    simp only [Act.put, List.setIfInBounds_toArray, List.set_cons_zero, List.set_cons_succ, i64_w, i32_w]
    rfl
  refine pure_ (i := 20) (N := some 26) (v := ?_) (a' := ?_) #[true, true, true, true, true, true, true, true, true, true, true, true, true, true, true, true, true, true, true, true, true, false, false] rfl rfl (by kernel_rfl) (fun _ _ _ h => h) (Or.inl ⟨by rfl, ?_⟩) ?_ ?_
  rotate_left
  · intro w'
    go_simp
    with_reducible rfl
  rotate_left
  · simp only [Act.put, List.setIfInBounds_toArray, List.set_cons_zero, List.set_cons_succ, i64_w, i32_w]
    rfl
  refine pure_ (i := 21) (N := some 27) (v := ?_) (a' := ?_) #[true, true, true, true, true, true, true, true, true, true, true, true, true, true, true, true, true, true, true, true, true, true, false] rfl rfl (by kernel_rfl) (fun _ _ _ h => h) (Or.inl ⟨by rfl, ?_⟩) ?_ ?_
  rotate_left
  · intro w'
    go_simp
    with_reducible rfl
  rotate_left
  · simp only [Act.put, List.setIfInBounds_toArray, List.set_cons_zero, List.set_cons_succ, i64_w, i32_w]
    rfl
  refine last_ (i := 22) (N := none) #[true, true, true, true, true, true, true, true, true, true, true, true, true, true, true, true, true, true, true, true, true, true, true] rfl rfl (by kernel_rfl) (by decide) (fun K hK => ?_)
  obtain ⟨hc0, hc1, hc2, hc3, hc4, hc5, hf0, hf1, hf2, hf3, hf4, hf5⟩ := HI6.out.cells
  refine skip_ (w1 := ?_) (by rfl) rfl ?_ ?_
  rotate_left
  · go_simp
    rfl
  refine hK.out _ _ ?_
  clear hK K
  refine done_ (by kernel_rfl) ?_
  have HI7 := Aside0.mk (show StC (w6.setCell ⟨g, 5, none⟩ (.slice A1 n1 c1)) g e s v st ap (.slice A1 n1 c1) from blk_put HI6.out 5 _ rfl)
  have HQ7 := Aside0.mk (R_kq HQ6.out ((Kq.refl (fun t => t ≠ 79) w6).set HI6.out (fun h => h rfl) 5 (.slice A1 n1 c1)) (by decide))
  have HB7 := Aside0.mk (below_set (j := 5) (v := .slice A1 n1 c1) HB6.out HG.out)
  have HK7 := Aside0.mk (HK6.out.set HI6.out (fun h => h.2 rfl) 5 (.slice A1 n1 c1))
  clear HI6 HQ6 HB6 HK6 hc0 hc1 hc2 hc3 hc4 hc5 hf0 hf1 hf2 hf3 hf4 hf5
  go_wp2
  go_end0
  exact ⟨_, rfl, HI7.out, HQ7.out, HB7.out, HK7.out⟩
def StPost (w0 w : World) (g : Nat) (e s st ap : Int) (l : List Int) (ms : List S53) (ok : Nat → Prop) (w' : World) : Prop :=
  ∃ (A : Option Addr) (c : Nat) (u : Value), StC w' g e s (.slice A l.length c) st ap u ∧ Kd.Q (Kd.int .i64) 3 w' w0.heap.size (fun _ => True) (.slice A l.length c) l ∧ Kd.R k53 53 w' w0.heap.size ok u ms ∧ Below w0.heap.size w0 w' ∧ Kq (fun t => t ≠ 53 ∧ t ≠ 79) w w'
set_option maxHeartbeats 4000000 in
set_option maxRecDepth 100000 in
theorem stored_no (k g : Nat) (e s st ap cy : Int) (A : Option Addr) (c : Nat) (l : List Int) (u : Value) (ms : List S53) (b : Bool) (ok : Nat → Prop) (w0 w : World) (hI : StC w g e s (.slice A l.length c) st ap u) (hg : w0.heap.size ≤ g) (hB : Below w0.heap.size w0 w) (hQ : Kd.Q (Kd.int .i64) 3 w w0.heap.size (fun _ => True) (.slice A l.length c) l) (hR : Kd.R k53 53 w w0.heap.size ok u ms)
    (hc : slices_Contains_int_int.f k l cy = some b) (hn : b = false ∨ cy < st) :
    Calls Try.prog 51 #[.pointer (some ⟨g, 0, none⟩), .int .i64 cy] w fun e' w' => e' = .returned (.tuple #[]) ∧ StPost w0 w g e s st ap l ms ok w' := by
  have hu79 := Try.underlying79
  have hu24 := Try.underlying24
  obtain ⟨hc0, hc1, hc2, hc3, hc4, hc5, hf0, hf1, hf2, hf3, hf4, hf5⟩ := hI.cells
  obtain ⟨-, hlc, hC⟩ := Kd.Q_reads' hQ
  have HI := Aside0.mk hI
  have HB := Aside0.mk hB
  have HQ := Aside0.mk hQ
  have HR := Aside0.mk hR
  have HC := Aside0.mk hC
  have HL := Aside0.mk hlc
  have H := Aside0.mk hc
  clear hI hB hQ hR hC hlc hc hg
  have fin : ∀ w' : World, Drawn0 w w' → StPost w0 w g e s st ap l ms ok w' := fun w' hd => ⟨A, c, u, HI.out.below hd.below, Kd.Q_below HQ.out hd.below, Kd.R_below HR.out hd.below, below_then HB.out HB.out.size hd.below, (Kq.refl _ w).below hd.below⟩
  have FIN := Aside0.mk fin
  clear fin
  cases b with
  | false =>
    clear hn
    go_enter Try.func51, Try.ntmps51
    go_wp2_with fail
    refine (slices_Contains_int_int.calls k A c l cy false w HC.out HL.out H.out).mono ?_
    rintro e' w1 ⟨rfl, hd⟩
    have HD := Aside0.mk hd
    clear hd
    go_wp2
    go_end0
    exact ⟨rfl, FIN.out _ HD.out⟩
  | true =>
    have hlt : decide (st ≤ cy) = false := decide_eq_false (by rcases hn with h | h; cases h; omega)
    clear hn
    go_enter Try.func51, Try.ntmps51
    go_wp2_with fail
    refine (slices_Contains_int_int.calls k A c l cy true w HC.out HL.out H.out).mono ?_
    rintro e' w1 ⟨rfl, hd⟩
    have HD := Aside0.mk hd
    have hI1 := HI.out.below hd.below
    clear hc0 hc1 hc2 hc3 hc4 hc5 hf0 hf1 hf2 hf3 hf4 hf5
    obtain ⟨hc0, hc1, hc2, hc3, hc4, hc5, hf0, hf1, hf2, hf3, hf4, hf5⟩ := hI1.cells
    clear hd hI1
    go_wp2
    go_end0
    exact ⟨rfl, FIN.out _ HD.out⟩
set_option maxHeartbeats 4000000 in
set_option maxRecDepth 100000 in
theorem stored_yes (k g : Nat) (e s st ap cy : Int) (A : Option Addr) (c : Nat) (l : List Int) (u : Value) (ms : List S53) (ok : Nat → Prop) (w0 w : World) (hI : StC w g e s (.slice A l.length c) st ap u) (hg : w0.heap.size ≤ g) (hB : Below w0.heap.size w0 w) (hQ : Kd.Q (Kd.int .i64) 3 w w0.heap.size (fun _ => True) (.slice A l.length c) l) (hR : Kd.R k53 53 w w0.heap.size ok u ms) (hl : ms.length ≤ 1000000) (hok : ∀ k, w.heap.size ≤ k → ok k)
    (hc : slices_Contains_int_int.f k l cy = some true) (hn : st ≤ cy) :
    Calls Try.prog 51 #[.pointer (some ⟨g, 0, none⟩), .int .i64 cy] w fun e' w' => e' = .returned (.tuple #[]) ∧ StPost w0 w g e s cy ap l (ms ++ [⟨10, 0, s, cy, 0, e, (), ()⟩]) ok w' := by
  have hu79 := Try.underlying79
  have hu24 := Try.underlying24
  obtain ⟨hc0, hc1, hc2, hc3, hc4, hc5, hf0, hf1, hf2, hf3, hf4, hf5⟩ := hI.cells
  obtain ⟨-, hlc, hC⟩ := Kd.Q_reads' hQ
  have HI := Aside0.mk hI
  have HB := Aside0.mk hB
  have HQ := Aside0.mk hQ
  have HR := Aside0.mk hR
  have HC := Aside0.mk hC
  have HL := Aside0.mk hlc
  have H := Aside0.mk hc
  have HG := Aside0.mk hg
  have HM := Aside0.mk hl
  have HOK0 := Aside0.mk hok
  have hlt : decide (st ≤ cy) = true := decide_eq_true hn
  clear hI hB hQ hR hC hlc hc hg hl hn hok
  go_enter Try.func51, Try.ntmps51
  go_wp2_with fail
  refine (slices_Contains_int_int.calls k A c l cy true w HC.out HL.out H.out).mono ?_
  rintro e' w1 ⟨rfl, hd⟩
  have HI1 := Aside0.mk (HI.out.below hd.below)
  have HB1 := Aside0.mk (below_then HB.out HB.out.size hd.below)
  have HQ1 := Aside0.mk (Kd.Q_below HQ.out hd.below)
  have HR1 := Aside0.mk (Kd.R_below HR.out hd.below)
  have HK1 := Aside0.mk ((Kq.refl (fun t => t ≠ 53 ∧ t ≠ 79) w).below hd.below)
  have HSZ1 := Aside0.mk hd.below.size
  clear hc0 hc1 hc2 hc3 hc4 hc5 hf0 hf1 hf2 hf3 hf4 hf5 hd HI HB HQ HR
  obtain ⟨hc0, hc1, hc2, hc3, hc4, hc5, hf0, hf1, hf2, hf3, hf4, hf5⟩ := HI1.out.cells
  go_wp2_with fail
  have HI2 := Aside0.mk (show StC (w1.setCell ⟨g, 3, none⟩ (.int .i64 cy)) g e s (.slice A l.length c) cy ap u from blk_put HI1.out 3 _ rfl)
  have HB2 := Aside0.mk (below_set (j := 3) (v := .int .i64 cy) HB1.out HG.out)
  have HQ2 := Aside0.mk (Kd.Q_set HQ1.out HI1.out (by decide) 3 (.int .i64 cy))
  have HR2 := Aside0.mk (R_kq HR1.out ((Kq.refl (fun t => t ≠ 79) w1).set HI1.out (fun h => h rfl) 3 (.int .i64 cy)) (by decide))
  have HK2 := Aside0.mk (HK1.out.set HI1.out (fun h => h.2 rfl) 3 (.int .i64 cy))
  have HSZ2 : Aside0 (w.heap.size ≤ (w1.setCell ⟨g, 3, none⟩ (.int .i64 cy)).heap.size) := ⟨by rw [World.size_setCell]; exact HSZ1.out⟩
  generalize w1.setCell ⟨g, 3, none⟩ (.int .i64 cy) = w2 at HI2 HB2 HQ2 HR2 HK2 HSZ2 ⊢
  clear HI1 HB1 HQ1 HR1 HK1 hc0 hc1 hc2 hc3 hc4 hc5 hf0 hf1 hf2 hf3 hf4 hf5
  have HOK : Aside0 (∀ k, w2.heap.size ≤ k → ok k) := ⟨fun k hk => HOK0.out k (Nat.le_trans (HSZ2.out) hk)⟩
  refine (commit_send_calls g e s cy ap _ u ms 10 cy ok w0 w2 HI2.out HG.out HB2.out HR2.out HM.out HOK.out).mono ?_
  rintro e' w3 ⟨u', rfl, hI3, hR3, hB3, hK3⟩
  have HF := Aside0.mk (show StPost w0 w g e s cy ap l (ms ++ [⟨10, 0, s, cy, 0, e, (), ()⟩]) ok w3 from ⟨A, c, u', hI3, Q_kq HQ2.out hK3 (by decide), hR3, hB3, HK2.out.trans hK3⟩)
  clear hI3 hR3 hB3 hK3 HI2 HB2 HQ2 HR2 HK2
  go_wp2
  go_end0
  exact ⟨rfl, HF.out⟩
set_option maxHeartbeats 4000000 in
set_option maxRecDepth 100000 in
theorem refused_calls (g : Nat) (e s st ap cy : Int) (A : Option Addr) (c : Nat) (l : List Int) (u : Value) (ms : List S53) (ok : Nat → Prop) (w0 w : World) (hI : StC w g e s (.slice A l.length c) st ap u) (hB : Below w0.heap.size w0 w) (hQ : Kd.Q (Kd.int .i64) 3 w w0.heap.size (fun _ => True) (.slice A l.length c) l) (hR : Kd.R k53 53 w w0.heap.size ok u ms) :
    Calls Try.prog 53 #[.pointer (some ⟨g, 0, none⟩), .int .i64 cy] w fun e' w' => e' = .returned (.tuple #[]) ∧ StPost w0 w g e s st ap l ms ok w' := by
  have HF := Aside0.mk (show StPost w0 w g e s st ap l ms ok w from ⟨A, c, u, hI, hQ, hR, hB, Kq.refl _ w⟩)
  clear hI hB hQ hR
  go_enter Try.func53, Try.ntmps53
  go_wp2
  go_end0
  exact ⟨rfl, HF.out⟩
set_option maxHeartbeats 4000000 in
set_option maxRecDepth 100000 in
theorem applied_no (k g : Nat) (e s st ap cy at' : Int) (A : Option Addr) (c : Nat) (l : List Int) (u : Value) (ms : List S53) (ok : Nat → Prop) (w0 w : World) (hI : StC w g e s (.slice A l.length c) st ap u) (hB : Below w0.heap.size w0 w) (hQ : Kd.Q (Kd.int .i64) 3 w w0.heap.size (fun _ => True) (.slice A l.length c) l) (hR : Kd.R k53 53 w w0.heap.size ok u ms)
    (hc : slices_Index_int_int.f k l cy = some at') (hn : at' < 0) :
    Calls Try.prog 52 #[.pointer (some ⟨g, 0, none⟩), .int .i64 cy] w fun e' w' => e' = .returned (.tuple #[]) ∧ StPost w0 w g e s st ap l ms ok w' := by
  have hu79 := Try.underlying79
  have hu24 := Try.underlying24
  obtain ⟨hc0, hc1, hc2, hc3, hc4, hc5, hf0, hf1, hf2, hf3, hf4, hf5⟩ := hI.cells
  obtain ⟨-, hlc, hC⟩ := Kd.Q_reads' hQ
  have HI := Aside0.mk hI
  have HB := Aside0.mk hB
  have HQ := Aside0.mk hQ
  have HR := Aside0.mk hR
  have HC := Aside0.mk hC
  have HL := Aside0.mk hlc
  have H := Aside0.mk hc
  have hlt : decide (0 ≤ at') = false := decide_eq_false (by omega)
  clear hI hB hQ hR hC hlc hc hn
  go_enter Try.func52, Try.ntmps52
  go_wp2_with fail
  refine (slices_Index_int_int.calls k A c l cy at' w HC.out HL.out H.out).mono ?_
  rintro e' w1 ⟨rfl, hd⟩
  have HF := Aside0.mk (show StPost w0 w g e s st ap l ms ok w1 from ⟨A, c, u, HI.out.below hd.below, Kd.Q_below HQ.out hd.below, Kd.R_below HR.out hd.below, below_then HB.out HB.out.size hd.below, (Kq.refl _ w).below hd.below⟩)
  clear hd
  go_wp2
  go_end0
  exact ⟨rfl, HF.out⟩
set_option maxHeartbeats 4000000 in
set_option maxRecDepth 100000 in
theorem applied_yes (k g : Nat) (e s st ap cy at' mi : Int) (A : Option Addr) (c : Nat) (l : List Int) (u : Value) (ms : List S53) (ok : Nat → Prop) (w0 w : World) (hI : StC w g e s (.slice A l.length c) st ap u) (hg : w0.heap.size ≤ g) (hB : Below w0.heap.size w0 w) (hQ : Kd.Q (Kd.int .i64) 3 w w0.heap.size (fun _ => True) (.slice A l.length c) l) (hR : Kd.R k53 53 w w0.heap.size ok u ms)
    (hc : slices_Index_int_int.f k l cy = some at') (hn : 0 ≤ at') (hn2 : at' < l.length) (hl : l.length ≤ 1000000) (hmi : mi = if st < cy then cy else st) :
    Calls Try.prog 52 #[.pointer (some ⟨g, 0, none⟩), .int .i64 cy] w fun e' w' => e' = .returned (.tuple #[]) ∧ StPost w0 w g e s mi cy (l.drop (at' + 1).toNat) ms ok w' := by
  have hu79 := Try.underlying79
  have hu24 := Try.underlying24
  obtain ⟨hc0, hc1, hc2, hc3, hc4, hc5, hf0, hf1, hf2, hf3, hf4, hf5⟩ := hI.cells
  obtain ⟨-, hlc, hC⟩ := Kd.Q_reads' hQ
  obtain ⟨ji, hji⟩ : ∃ ji : Int, ji = at' + 1 := ⟨_, rfl⟩
  have hw : IntKind.i64.wrap (at' + 1) = ji := by rw [hji]; exact IntWalk.i64_in _ (by omega)
  have hw' : wrap64 (at' + 1) = ji := by rw [hji]; unfold wrap64; omega
  obtain ⟨i3, hi3, hi3'⟩ := Option.map_eq_some_iff.1 info3
  obtain ⟨Ac, nc, cc, hAc, hnc, hcc⟩ : ∃ (Ac : Option Addr) (nc cc : Nat), Ac = (if c = ji.toNat then A else A.map (·.add (ji.toNat * 1))) ∧ nc = l.length - ji.toNat ∧ cc = c - ji.toNat := ⟨_, _, _, rfl, rfl, rfl⟩
  have hcut : ∀ W : World, (Instr.slice 22 (.slice A l.length c) (some (.int .i64 ji)) none none).run Try.prog W = .ok (.slice Ac nc cc) W := by
    rw [hAc, hnc, hcc]
    exact cut_from 22 3 .i64 Try.underlying22 hi3 1 (by simp only [Prod.mk.injEq] at hi3'; exact hi3'.2.1) A l.length c ji (by omega) (by omega)
  have HQC : ∀ W, Kd.Q (Kd.int .i64) 3 W w0.heap.size (fun _ => True) (.slice A l.length c) l → Kd.Q (Kd.int .i64) 3 W w0.heap.size (fun _ => True) (.slice Ac nc cc) (l.drop ji.toNat) := fun W h => by
    rw [hAc, hnc, hcc]
    exact Kd.Q_drop h (by omega)
  have HNC : Aside0 (nc = (l.drop ji.toNat).length) := ⟨by rw [hnc, List.length_drop]⟩
  have HQA := Aside0.mk HQC
  have HCUT := Aside0.mk hcut
  have HJ := Aside0.mk hji
  have HMI := Aside0.mk hmi
  have HI := Aside0.mk hI
  have HB := Aside0.mk hB
  have HQ := Aside0.mk hQ
  have HR := Aside0.mk hR
  have HC := Aside0.mk hC
  have HL := Aside0.mk hlc
  have H := Aside0.mk hc
  have HG := Aside0.mk hg
  have HW := Aside0.mk hw
  have HW' := Aside0.mk hw'
  have hlt : decide (0 ≤ at') = true := decide_eq_true hn
  clear hI hB hQ hR hC hlc hc hg hi3 hi3' hAc hnc hcc HQC hcut hji hmi hw hw' hn hn2 hl
  go_enter Try.func52, Try.ntmps52
  go_wp2_with fail
  refine (slices_Index_int_int.calls k A c l cy at' w HC.out HL.out H.out).mono ?_
  rintro e' w1 ⟨rfl, hd⟩
  have HI1 := Aside0.mk (HI.out.below hd.below)
  have HB1 := Aside0.mk (below_then HB.out HB.out.size hd.below)
  have HQ1 := Aside0.mk (HQA.out _ (Kd.Q_below HQ.out hd.below))
  have HR1 := Aside0.mk (Kd.R_below HR.out hd.below)
  have HK1 := Aside0.mk ((Kq.refl (fun t => t ≠ 53 ∧ t ≠ 79) w).below hd.below)
  clear hc0 hc1 hc2 hc3 hc4 hc5 hf0 hf1 hf2 hf3 hf4 hf5 hd HI HB HQ HR
  obtain ⟨hc0, hc1, hc2, hc3, hc4, hc5, hf0, hf1, hf2, hf3, hf4, hf5⟩ := HI1.out.cells
  have hcut := HCUT.out
  have hw := HW.out
  have hw' := HW'.out
  have hmi := HMI.out.symm
  go_wp2
  have c1 : StC (w1.setCell ⟨g, 2, none⟩ (.slice Ac nc cc)) g e s (.slice Ac nc cc) st ap u := blk_put HI1.out 2 _ rfl
  have c2 : StC ((w1.setCell ⟨g, 2, none⟩ (.slice Ac nc cc)).setCell ⟨g, 4, none⟩ (.int .i64 cy)) g e s (.slice Ac nc cc) st cy u := blk_put c1 4 _ rfl
  have c3 : StC (((w1.setCell ⟨g, 2, none⟩ (.slice Ac nc cc)).setCell ⟨g, 4, none⟩ (.int .i64 cy)).setCell ⟨g, 3, none⟩ (.int .i64 mi)) g e s (.slice Ac nc cc) mi cy u := blk_put c2 3 _ rfl
  have q3 := Kd.Q_set (Kd.Q_set (Kd.Q_set HQ1.out HI1.out (by decide) 2 (.slice Ac nc cc)) c1 (by decide) 4 (.int .i64 cy)) c2 (by decide) 3 (.int .i64 mi)
  have k3 := ((HK1.out.set HI1.out (fun h => h.2 rfl) 2 (.slice Ac nc cc)).set c1 (fun h => h.2 rfl) 4 (.int .i64 cy)).set c2 (fun h => h.2 rfl) 3 (.int .i64 mi)
  have k3' := (((Kq.refl (fun t => t ≠ 79) w1).set HI1.out (fun h => h rfl) 2 (.slice Ac nc cc)).set c1 (fun h => h rfl) 4 (.int .i64 cy)).set c2 (fun h => h rfl) 3 (.int .i64 mi)
  have b3 := below_set (j := 3) (v := .int .i64 mi) (below_set (j := 4) (v := .int .i64 cy) (below_set (j := 2) (v := .slice Ac nc cc) HB1.out HG.out) HG.out) HG.out
  have k4 := R_kq HR1.out k3' (by decide)
  generalize ((w1.setCell ⟨g, 2, none⟩ (.slice Ac nc cc)).setCell ⟨g, 4, none⟩ (.int .i64 cy)).setCell ⟨g, 3, none⟩ (.int .i64 mi) = W3 at c3 q3 k3 k4 b3 ⊢
  rw [HNC.out] at c3 q3
  have HF := Aside0.mk (show StPost w0 w g e s mi cy (l.drop ji.toNat) ms ok W3 from ⟨Ac, cc, u, c3, q3, k4, b3, k3⟩)
  clear c1 c2 c3 q3 k3 k4 k3' b3
  go_end0
  refine ⟨rfl, ?_⟩
  have hf := HF.out
  rw [← HJ.out]
  exact hf
end Go.Proofs.Ytedoloapddmanaa.PB
