-- Written by a program of this session (wip/tools) over the kit's print.
import Derived.Test.YtppniempndnghaaPAx0
import Derived.Test.YtppniempndnghaaPAx2
import Derived.Test.YtppniempndnghaaPAx3
import Derived.Test.YtppniempndnghaaPAx4
import Derived.Test.YtppniempndnghaaPAx5
import Derived.Test.YtppniempndnghaaPAx6
import Derived.Test.YtppniempndnghaaPAx7
import Derived.Test.YtppniempndnghaaPAx10
namespace Go.Proofs.Ytppniempndnghaa.PA
open Go.RowKit Go.Proofs.YtppniempndnghaaW.PrintWords Go.Proofs.YtppniempndnghaaW.PrintLast Go.Proofs.YtppniempndnghaaW.PrintMore
attribute [local go_sem] max2_int min2_int max_two min_two max_three min_three max_four min_four   -- for this text's walks alone
set_option linter.unusedVariables false
set_option linter.unusedSimpArgs false

-- @OURS@
/-! ### throttle_Progress: function 19 -/
set_option maxHeartbeats 8000000 in
set_option maxRecDepth 100000 in
theorem progress_range (k : Nat) (a0 a1 a2 a3 : Int) (A : Option Addr) (c : Nat) (l : List S71) (now n : Int) (w : World) (hr : Kd.C k71 w A l.length l) (hc : l.length ≤ c) (h : throttle_Check.f k a0 a1 a2 a3 l = some 0) (hn : throttle_between.f now a2 1073741824 = some true) (hcl : api_Mark_44.f l = some l) (cf t : Int) (hcf : throttle_state_confirmed.f a0 a1 now a3 l = some cf) (ht : throttle_state_total.f a0 a1 now a3 l = some t) (hbt : throttle_between.f n cf t = some false) :
    Calls Try.prog 19 #[.agg #[.int .i64 a0, .int .i64 a1, .int .i64 a2, .int .i64 a3, .slice A l.length c], .int .i64 now, .int .i64 n] w fun e' w' => e' = .returned (.tuple #[.agg #[.int .i64 0, .int .i64 0, .int .i64 0, .int .i64 0, .slice none 0 0], .int .i64 2]) ∧ Below w.heap.size w w' := by
  have hu73 := Try.underlying73
  have hu24 := Try.underlying24
  have HR := Aside0.mk hr
  have HC := Aside0.mk hc
  have H := Aside0.mk h
  clear hr hc h
  have HN := Aside0.mk hn
  clear hn
  have HCL := Aside0.mk hcl
  clear hcl
  have HCF := Aside0.mk hcf
  clear hcf
  have HT := Aside0.mk ht
  clear ht
  have HBT := Aside0.mk hbt
  clear hbt
  go_enter Try.func19, Try.ntmps19
  go_wp2_with fail
  have hW := tri_alloc w #[.int .i64 a0, .int .i64 a1, .int .i64 a2, .int .i64 a3, .slice A l.length c] #[.int .i64 0, .int .i64 0, .int .i64 0, .int .i64 0, .slice none 0 0] #[.int .i64 a0, .int .i64 a1, .int .i64 a2, .int .i64 a3, .slice A l.length c]
  generalize (((w.alloc (.cells #[.int .i64 a0, .int .i64 a1, .int .i64 a2, .int .i64 a3, .slice A l.length c] 24)).alloc (.cells #[.int .i64 0, .int .i64 0, .int .i64 0, .int .i64 0, .slice none 0 0] 24)).alloc (.cells #[.int .i64 a0, .int .i64 a1, .int .i64 a2, .int .i64 a3, .slice A l.length c] 73)) = W at hW ⊢
  have hgz : w.heap.size ≤ w.heap.size + 1 := Nat.le_succ _
  have hgg : w.heap.size ≤ w.heap.size + 1 + 1 := Nat.le_succ_of_le (Nat.le_succ _)
  refine (advance_yes k (w.heap.size + 1 + 1) a0 a1 a2 a3 A c l l now w W hW.1 hW.2.2 hgg HR.out HC.out H.out HN.out HCL.out).mono ?_
  rintro e' w1 ⟨v, rfl, hI, hR, hb, hk⟩
  obtain ⟨A1, c1, rfl, hl1, hC⟩ := Kd.R_reads hR
  have HI1 := Aside0.mk hI
  have HR1 := Aside0.mk hR
  have HB1 := Aside0.mk hb
  have HZ1 := Aside0.mk (hk _ _ hW.2.1)
  have HL1 := Aside0.mk hl1
  clear hI hR hC hb hk hW hl1
  obtain ⟨hcg0, hcg1, hcg2, hcg3, hcg4, hfg0, hfg1, hfg2, hfg3, hfg4⟩ := HI1.out.cells
  go_wp2
  clear hcg0 hcg1 hcg2 hcg3 hcg4 hfg0 hfg1 hfg2 hfg3 hfg4
  refine start_ (n := 7) (S := fun w' => w'.cell? ⟨w.heap.size + 1 + 1, 0, none⟩ = some (.int .i64 a0) ∧ w'.cell? ⟨w.heap.size + 1 + 1, 1, none⟩ = some (.int .i64 a1) ∧ w'.cell? ⟨w.heap.size + 1 + 1, 2, none⟩ = some (.int .i64 now) ∧ w'.cell? ⟨w.heap.size + 1 + 1, 3, none⟩ = some (.int .i64 a3) ∧ w'.cell? ⟨w.heap.size + 1 + 1, 4, none⟩ = some (.slice A1 l.length c1) ∧ Aside0 (StT w' (w.heap.size + 1 + 1) a0 a1 now a3 (.slice A1 l.length c1)) ∧ Aside0 (Kd.R k71 71 w' w.heap.size (fun _ => True) (.slice A1 l.length c1) l) ∧ Aside0 (Below w.heap.size w w') ∧ Aside0 (w'.heap[w.heap.size + 1]? = some (.cells #[.int .i64 0, .int .i64 0, .int .i64 0, .int .i64 0, .slice none 0 0] 24 (0, 0)))) (ds := []) #[false, false, false, false, false, false, false] (by kernel_rfl) rfl rfl ⟨HI1.out.cells.1, HI1.out.cells.2.1, HI1.out.cells.2.2.1, HI1.out.cells.2.2.2.1, HI1.out.cells.2.2.2.2.1, ⟨HI1.out⟩, ⟨Kd.R_drewN HR1.out 1⟩, ⟨pw_below_drewN HB1.out 1⟩, ⟨HZ1.out⟩⟩ (fun hHeld => ?_)
  refine pure_ (i := 0) (N := some 19) (v := ?_) (a' := ?_) #[true, false, false, false, false, false, false] rfl rfl (by kernel_rfl) (fun _ _ _ h => h) (Or.inl ⟨by rfl, ?_⟩) ?_ ?_
  rotate_left
  · intro w'
    go_simp
    with_reducible rfl
  rotate_left
  · simp only [Act.put, List.setIfInBounds_toArray, List.set_cons_zero, List.set_cons_succ, i64_w, i32_w]
    rfl
  refine take_ (i := 1) (N := some 20) (v := ?_) (a' := ?_) #[true, true, false, false, false, false, false] rfl rfl (by kernel_rfl) (fun _ _ _ h => h) (Or.inl ⟨by rfl, ?_⟩) hHeld ?_ ?_
  rotate_left
  · rintro w' ⟨s0, s1, s2, s3, s4, s5, s6, s7, s8⟩
    go_simp
    with_reducible rfl
  rotate_left
  · simp only [Act.put, List.setIfInBounds_toArray, List.set_cons_zero, List.set_cons_succ, i64_w, i32_w]
    rfl
  refine take_ (i := 3) (N := some 22) (v := ?_) (a' := ?_) #[true, true, false, true, false, false, false] rfl rfl (by kernel_rfl) (fun _ _ _ h => h) (Or.inl ⟨by rfl, ?_⟩) hHeld ?_ ?_
  rotate_left
  · rintro w' ⟨s0, s1, s2, s3, s4, s5, s6, s7, s8⟩
    go_simp
    with_reducible rfl
  rotate_left
  · simp only [Act.put, List.setIfInBounds_toArray, List.set_cons_zero, List.set_cons_succ, i64_w, i32_w]
    rfl
  refine one_ (i := 2) (N := some 21) #[true, true, true, true, false, false, false] rfl rfl (by kernel_rfl) (by decide) (fun K hK => ?_)
  refine goes_ Try.func30 (by kernel_rfl) rfl #[.agg #[.int .i64 a0, .int .i64 a1, .int .i64 now, .int .i64 a3, .slice A1 l.length c1]] (by rfl) rfl rfl (by simp only [List.map_toArray, List.map_cons, List.map_nil]; rfl) ?_
  with_reducible refine (throttle_state_confirmed.calls a0 a1 now a3 A1 c1 l cf _ (Kd.R_reads' hHeld.2.2.2.2.2.2.1.out).2.2 HL1.out HCF.out).mono ?_
  rintro e w4 ⟨rfl, hb⟩
  refine ⟨_, rfl, ?_⟩
  have HS := hHeld; clear hHeld; obtain ⟨-, -, -, -, -, HI5, HR5, HB5, HZ5⟩ := HS
  have HI6 := Aside0.mk (HI5.out.below hb); have HR6 := Aside0.mk (Kd.R_below HR5.out hb); have HB6 := Aside0.mk (below_then HB5.out HB5.out.size hb); have HZ6 := Aside0.mk (blk_below HZ5.out hb)
  clear HI5 HR5 HB5 HZ5 hb
  refine hK.out _ _ ⟨HI6.out.cells.1, HI6.out.cells.2.1, HI6.out.cells.2.2.1, HI6.out.cells.2.2.2.1, HI6.out.cells.2.2.2.2.1, HI6, HR6, HB6, HZ6⟩ (fun hHeld => ?_)
  clear hK K
  refine norm_ (a' := ?_) ?_ ?_
  rotate_left
  · show Act.put _ (some 21) _ = _
    simp only [Act.put, List.setIfInBounds_toArray, List.set_cons_zero, List.set_cons_succ, i64_w, i32_w]
    rfl
  refine one_ (i := 4) (N := some 23) #[true, true, true, true, true, false, false] rfl rfl (by kernel_rfl) (by decide) (fun K hK => ?_)
  refine goes_ Try.func28 (by kernel_rfl) rfl #[.agg #[.int .i64 a0, .int .i64 a1, .int .i64 now, .int .i64 a3, .slice A1 l.length c1]] (by rfl) rfl rfl (by simp only [List.map_toArray, List.map_cons, List.map_nil]; rfl) ?_
  with_reducible refine (throttle_state_total.calls a0 a1 now a3 A1 c1 l t _ (Kd.R_reads' hHeld.2.2.2.2.2.2.1.out).2.2 HL1.out HT.out).mono ?_
  rintro e w4 ⟨rfl, hb⟩
  refine ⟨_, rfl, ?_⟩
  have HS := hHeld; clear hHeld; obtain ⟨-, -, -, -, -, HI5, HR5, HB5, HZ5⟩ := HS
  have HI6 := Aside0.mk (HI5.out.below hb); have HR6 := Aside0.mk (Kd.R_below HR5.out hb); have HB6 := Aside0.mk (below_then HB5.out HB5.out.size hb); have HZ6 := Aside0.mk (blk_below HZ5.out hb)
  clear HI5 HR5 HB5 HZ5 hb
  refine hK.out _ _ ⟨HI6.out.cells.1, HI6.out.cells.2.1, HI6.out.cells.2.2.1, HI6.out.cells.2.2.2.1, HI6.out.cells.2.2.2.2.1, HI6, HR6, HB6, HZ6⟩ (fun hHeld => ?_)
  clear hK K
  refine norm_ (a' := ?_) ?_ ?_
  rotate_left
  · show Act.put _ (some 23) _ = _
    simp only [Act.put, List.setIfInBounds_toArray, List.set_cons_zero, List.set_cons_succ, i64_w, i32_w]
    rfl
  refine one_ (i := 5) (N := some 24) #[true, true, true, true, true, true, false] rfl rfl (by kernel_rfl) (by decide) (fun K hK => ?_)
  refine goes_ Try.func27 (by kernel_rfl) rfl #[.int .i64 n, .int .i64 cf, .int .i64 t] (by rfl) rfl rfl (by simp only [List.map_toArray, List.map_cons, List.map_nil]; rfl) ?_
  with_reducible refine (throttle_between.calls n cf t false _ HBT.out).mono ?_
  rintro e w4 ⟨rfl, hb⟩
  replace hb := hb.below
  refine ⟨_, rfl, ?_⟩
  have HS := hHeld; clear hHeld; obtain ⟨-, -, -, -, -, HI5, HR5, HB5, HZ5⟩ := HS
  have HI6 := Aside0.mk (HI5.out.below hb); have HR6 := Aside0.mk (Kd.R_below HR5.out hb); have HB6 := Aside0.mk (below_then HB5.out HB5.out.size hb); have HZ6 := Aside0.mk (blk_below HZ5.out hb)
  clear HI5 HR5 HB5 HZ5 hb
  refine hK.out _ _ ⟨HI6.out.cells.1, HI6.out.cells.2.1, HI6.out.cells.2.2.1, HI6.out.cells.2.2.2.1, HI6.out.cells.2.2.2.2.1, HI6, HR6, HB6, HZ6⟩ (fun hHeld => ?_)
  clear hK K
  refine norm_ (a' := ?_) ?_ ?_
  rotate_left
  · show Act.put _ (some 24) _ = _
    simp only [Act.put, List.setIfInBounds_toArray, List.set_cons_zero, List.set_cons_succ, i64_w, i32_w]
    rfl
  refine pure_ (i := 6) (N := some 25) (v := ?_) (a' := ?_) #[true, true, true, true, true, true, true] rfl rfl (by kernel_rfl) (fun _ _ _ h => h) (Or.inl ⟨by rfl, ?_⟩) ?_ ?_
  rotate_left
  · intro w'
    go_simp
    with_reducible rfl
  rotate_left
  · simp only [Act.put, List.setIfInBounds_toArray, List.set_cons_zero, List.set_cons_succ, i64_w, i32_w]
    rfl
  refine done_ (by kernel_rfl) ?_
  obtain ⟨-, -, -, -, -, HI3, HR3, HB3, HZ3⟩ := hHeld
  clear HI1 HR1 HB1 HZ1
  have hz := HZ3.out
  have hchz0 := (blk_cell hz 0).trans rfl
  have hchz1 := (blk_cell hz 1).trans rfl
  have hchz2 := (blk_cell hz 2).trans rfl
  have hchz3 := (blk_cell hz 3).trans rfl
  have hchz4 := (blk_cell hz 4).trans rfl
  have hfhz0 := blk_frozen hz 0
  have hfhz1 := blk_frozen hz 1
  have hfhz2 := blk_frozen hz 2
  have hfhz3 := blk_frozen hz 3
  have hfhz4 := blk_frozen hz 4
  clear hz
  go_wp2
  refine bodyPost_ret (results_ct rfl _ _ (w.heap.size + 1) 24 #[.int .i64 0, .int .i64 0, .int .i64 0, .int .i64 0, .slice none 0 0] (0, 0) _ rfl (blk_put5 HZ3.out) Try.underlying24 rfl (by kernel_rfl)) rfl ?_
  exact ⟨rfl, below_set5 HB3.out hgz⟩


set_option maxHeartbeats 8000000 in
set_option maxRecDepth 100000 in
theorem progress_none (k : Nat) (a0 a1 a2 a3 : Int) (A : Option Addr) (c : Nat) (l : List S71) (now n : Int) (w : World) (hr : Kd.C k71 w A l.length l) (hc : l.length ≤ c) (h : throttle_Check.f k a0 a1 a2 a3 l = some 0) (hn : throttle_between.f now a2 1073741824 = some true) (hcl : api_Mark_44.f l = some l) (cf t : Int) (hcf : throttle_state_confirmed.f a0 a1 now a3 l = some cf) (ht : throttle_state_total.f a0 a1 now a3 l = some t) (hbt : throttle_between.f n cf t = some true) (hl : l.length = 0) :
    Calls Try.prog 19 #[.agg #[.int .i64 a0, .int .i64 a1, .int .i64 a2, .int .i64 a3, .slice A l.length c], .int .i64 now, .int .i64 n] w fun e' w' => ∃ v, e' = .returned (.tuple #[.agg #[.int .i64 a0, .int .i64 a1, .int .i64 now, .int .i64 (wrap64 (t - n)), v], .int .i64 0]) ∧ Kd.Q k71 71 w' w.heap.size (fun _ => True) v (l) ∧ Below w.heap.size w w' := by
  have hu73 := Try.underlying73
  have hu24 := Try.underlying24
  have HR := Aside0.mk hr
  have HC := Aside0.mk hc
  have H := Aside0.mk h
  clear hr hc h
  have HN := Aside0.mk hn
  clear hn
  have HCL := Aside0.mk hcl
  clear hcl
  have HCF := Aside0.mk hcf
  clear hcf
  have HT := Aside0.mk ht
  clear ht
  have HBT := Aside0.mk hbt
  clear hbt
  have hd0 : decide (0 < l.length) = false := decide_eq_false (by omega)
  clear hl
  go_enter Try.func19, Try.ntmps19
  go_wp2_with fail
  have hW := tri_alloc w #[.int .i64 a0, .int .i64 a1, .int .i64 a2, .int .i64 a3, .slice A l.length c] #[.int .i64 0, .int .i64 0, .int .i64 0, .int .i64 0, .slice none 0 0] #[.int .i64 a0, .int .i64 a1, .int .i64 a2, .int .i64 a3, .slice A l.length c]
  generalize (((w.alloc (.cells #[.int .i64 a0, .int .i64 a1, .int .i64 a2, .int .i64 a3, .slice A l.length c] 24)).alloc (.cells #[.int .i64 0, .int .i64 0, .int .i64 0, .int .i64 0, .slice none 0 0] 24)).alloc (.cells #[.int .i64 a0, .int .i64 a1, .int .i64 a2, .int .i64 a3, .slice A l.length c] 73)) = W at hW ⊢
  have hgz : w.heap.size ≤ w.heap.size + 1 := Nat.le_succ _
  have hgg : w.heap.size ≤ w.heap.size + 1 + 1 := Nat.le_succ_of_le (Nat.le_succ _)
  refine (advance_yes k (w.heap.size + 1 + 1) a0 a1 a2 a3 A c l l now w W hW.1 hW.2.2 hgg HR.out HC.out H.out HN.out HCL.out).mono ?_
  rintro e' w1 ⟨v, rfl, hI, hR, hb, hk⟩
  obtain ⟨A1, c1, rfl, hl1, hC⟩ := Kd.R_reads hR
  have HI1 := Aside0.mk hI
  have HR1 := Aside0.mk hR
  have HB1 := Aside0.mk hb
  have HZ1 := Aside0.mk (hk _ _ hW.2.1)
  have HL1 := Aside0.mk hl1
  clear hI hR hC hb hk hW hl1
  obtain ⟨hcg0, hcg1, hcg2, hcg3, hcg4, hfg0, hfg1, hfg2, hfg3, hfg4⟩ := HI1.out.cells
  go_wp2
  clear hcg0 hcg1 hcg2 hcg3 hcg4 hfg0 hfg1 hfg2 hfg3 hfg4
  refine start_ (n := 7) (S := fun w' => w'.cell? ⟨w.heap.size + 1 + 1, 0, none⟩ = some (.int .i64 a0) ∧ w'.cell? ⟨w.heap.size + 1 + 1, 1, none⟩ = some (.int .i64 a1) ∧ w'.cell? ⟨w.heap.size + 1 + 1, 2, none⟩ = some (.int .i64 now) ∧ w'.cell? ⟨w.heap.size + 1 + 1, 3, none⟩ = some (.int .i64 a3) ∧ w'.cell? ⟨w.heap.size + 1 + 1, 4, none⟩ = some (.slice A1 l.length c1) ∧ Aside0 (StT w' (w.heap.size + 1 + 1) a0 a1 now a3 (.slice A1 l.length c1)) ∧ Aside0 (Kd.R k71 71 w' w.heap.size (fun _ => True) (.slice A1 l.length c1) l) ∧ Aside0 (Below w.heap.size w w') ∧ Aside0 (w'.heap[w.heap.size + 1]? = some (.cells #[.int .i64 0, .int .i64 0, .int .i64 0, .int .i64 0, .slice none 0 0] 24 (0, 0)))) (ds := []) #[false, false, false, false, false, false, false] (by kernel_rfl) rfl rfl ⟨HI1.out.cells.1, HI1.out.cells.2.1, HI1.out.cells.2.2.1, HI1.out.cells.2.2.2.1, HI1.out.cells.2.2.2.2.1, ⟨HI1.out⟩, ⟨Kd.R_drewN HR1.out 1⟩, ⟨pw_below_drewN HB1.out 1⟩, ⟨HZ1.out⟩⟩ (fun hHeld => ?_)
  refine pure_ (i := 0) (N := some 19) (v := ?_) (a' := ?_) #[true, false, false, false, false, false, false] rfl rfl (by kernel_rfl) (fun _ _ _ h => h) (Or.inl ⟨by rfl, ?_⟩) ?_ ?_
  rotate_left
  · intro w'
    go_simp
    with_reducible rfl
  rotate_left
  · simp only [Act.put, List.setIfInBounds_toArray, List.set_cons_zero, List.set_cons_succ, i64_w, i32_w]
    rfl
  refine take_ (i := 1) (N := some 20) (v := ?_) (a' := ?_) #[true, true, false, false, false, false, false] rfl rfl (by kernel_rfl) (fun _ _ _ h => h) (Or.inl ⟨by rfl, ?_⟩) hHeld ?_ ?_
  rotate_left
  · rintro w' ⟨s0, s1, s2, s3, s4, s5, s6, s7, s8⟩
    go_simp
    with_reducible rfl
  rotate_left
  · simp only [Act.put, List.setIfInBounds_toArray, List.set_cons_zero, List.set_cons_succ, i64_w, i32_w]
    rfl
  refine take_ (i := 3) (N := some 22) (v := ?_) (a' := ?_) #[true, true, false, true, false, false, false] rfl rfl (by kernel_rfl) (fun _ _ _ h => h) (Or.inl ⟨by rfl, ?_⟩) hHeld ?_ ?_
  rotate_left
  · rintro w' ⟨s0, s1, s2, s3, s4, s5, s6, s7, s8⟩
    go_simp
    with_reducible rfl
  rotate_left
  · simp only [Act.put, List.setIfInBounds_toArray, List.set_cons_zero, List.set_cons_succ, i64_w, i32_w]
    rfl
  refine one_ (i := 2) (N := some 21) #[true, true, true, true, false, false, false] rfl rfl (by kernel_rfl) (by decide) (fun K hK => ?_)
  refine goes_ Try.func30 (by kernel_rfl) rfl #[.agg #[.int .i64 a0, .int .i64 a1, .int .i64 now, .int .i64 a3, .slice A1 l.length c1]] (by rfl) rfl rfl (by simp only [List.map_toArray, List.map_cons, List.map_nil]; rfl) ?_
  with_reducible refine (throttle_state_confirmed.calls a0 a1 now a3 A1 c1 l cf _ (Kd.R_reads' hHeld.2.2.2.2.2.2.1.out).2.2 HL1.out HCF.out).mono ?_
  rintro e w4 ⟨rfl, hb⟩
  refine ⟨_, rfl, ?_⟩
  have HS := hHeld; clear hHeld; obtain ⟨-, -, -, -, -, HI5, HR5, HB5, HZ5⟩ := HS
  have HI6 := Aside0.mk (HI5.out.below hb); have HR6 := Aside0.mk (Kd.R_below HR5.out hb); have HB6 := Aside0.mk (below_then HB5.out HB5.out.size hb); have HZ6 := Aside0.mk (blk_below HZ5.out hb)
  clear HI5 HR5 HB5 HZ5 hb
  refine hK.out _ _ ⟨HI6.out.cells.1, HI6.out.cells.2.1, HI6.out.cells.2.2.1, HI6.out.cells.2.2.2.1, HI6.out.cells.2.2.2.2.1, HI6, HR6, HB6, HZ6⟩ (fun hHeld => ?_)
  clear hK K
  refine norm_ (a' := ?_) ?_ ?_
  rotate_left
  · show Act.put _ (some 21) _ = _
    simp only [Act.put, List.setIfInBounds_toArray, List.set_cons_zero, List.set_cons_succ, i64_w, i32_w]
    rfl
  refine one_ (i := 4) (N := some 23) #[true, true, true, true, true, false, false] rfl rfl (by kernel_rfl) (by decide) (fun K hK => ?_)
  refine goes_ Try.func28 (by kernel_rfl) rfl #[.agg #[.int .i64 a0, .int .i64 a1, .int .i64 now, .int .i64 a3, .slice A1 l.length c1]] (by rfl) rfl rfl (by simp only [List.map_toArray, List.map_cons, List.map_nil]; rfl) ?_
  with_reducible refine (throttle_state_total.calls a0 a1 now a3 A1 c1 l t _ (Kd.R_reads' hHeld.2.2.2.2.2.2.1.out).2.2 HL1.out HT.out).mono ?_
  rintro e w4 ⟨rfl, hb⟩
  refine ⟨_, rfl, ?_⟩
  have HS := hHeld; clear hHeld; obtain ⟨-, -, -, -, -, HI5, HR5, HB5, HZ5⟩ := HS
  have HI6 := Aside0.mk (HI5.out.below hb); have HR6 := Aside0.mk (Kd.R_below HR5.out hb); have HB6 := Aside0.mk (below_then HB5.out HB5.out.size hb); have HZ6 := Aside0.mk (blk_below HZ5.out hb)
  clear HI5 HR5 HB5 HZ5 hb
  refine hK.out _ _ ⟨HI6.out.cells.1, HI6.out.cells.2.1, HI6.out.cells.2.2.1, HI6.out.cells.2.2.2.1, HI6.out.cells.2.2.2.2.1, HI6, HR6, HB6, HZ6⟩ (fun hHeld => ?_)
  clear hK K
  refine norm_ (a' := ?_) ?_ ?_
  rotate_left
  · show Act.put _ (some 23) _ = _
    simp only [Act.put, List.setIfInBounds_toArray, List.set_cons_zero, List.set_cons_succ, i64_w, i32_w]
    rfl
  refine one_ (i := 5) (N := some 24) #[true, true, true, true, true, true, false] rfl rfl (by kernel_rfl) (by decide) (fun K hK => ?_)
  refine goes_ Try.func27 (by kernel_rfl) rfl #[.int .i64 n, .int .i64 cf, .int .i64 t] (by rfl) rfl rfl (by simp only [List.map_toArray, List.map_cons, List.map_nil]; rfl) ?_
  with_reducible refine (throttle_between.calls n cf t true _ HBT.out).mono ?_
  rintro e w4 ⟨rfl, hb⟩
  replace hb := hb.below
  refine ⟨_, rfl, ?_⟩
  have HS := hHeld; clear hHeld; obtain ⟨-, -, -, -, -, HI5, HR5, HB5, HZ5⟩ := HS
  have HI6 := Aside0.mk (HI5.out.below hb); have HR6 := Aside0.mk (Kd.R_below HR5.out hb); have HB6 := Aside0.mk (below_then HB5.out HB5.out.size hb); have HZ6 := Aside0.mk (blk_below HZ5.out hb)
  clear HI5 HR5 HB5 HZ5 hb
  refine hK.out _ _ ⟨HI6.out.cells.1, HI6.out.cells.2.1, HI6.out.cells.2.2.1, HI6.out.cells.2.2.2.1, HI6.out.cells.2.2.2.2.1, HI6, HR6, HB6, HZ6⟩ (fun hHeld => ?_)
  clear hK K
  refine norm_ (a' := ?_) ?_ ?_
  rotate_left
  · show Act.put _ (some 24) _ = _
    simp only [Act.put, List.setIfInBounds_toArray, List.set_cons_zero, List.set_cons_succ, i64_w, i32_w]
    rfl
  refine pure_ (i := 6) (N := some 25) (v := ?_) (a' := ?_) #[true, true, true, true, true, true, true] rfl rfl (by kernel_rfl) (fun _ _ _ h => h) (Or.inl ⟨by rfl, ?_⟩) ?_ ?_
  rotate_left
  · intro w'
    go_simp
    with_reducible rfl
  rotate_left
  · simp only [Act.put, List.setIfInBounds_toArray, List.set_cons_zero, List.set_cons_succ, i64_w, i32_w]
    rfl
  refine done_ (by kernel_rfl) ?_
  obtain ⟨-, -, -, -, -, HI3, HR3, HB3, HZ3⟩ := hHeld
  clear HI1 HR1 HB1 HZ1
  obtain ⟨hcg0, hcg1, hcg2, hcg3, hcg4, hfg0, hfg1, hfg2, hfg3, hfg4⟩ := HI3.out.cells
  go_wp2_with fail
  clear hcg0 hcg1 hcg2 hcg3 hcg4 hfg0 hfg1 hfg2 hfg3 hfg4
  refine (throttle_state_total.calls a0 a1 now a3 A1 c1 l t _ (Kd.R_reads' HR3.out).2.2 HL1.out HT.out).mono ?_
  rintro e' w4 ⟨rfl, hb⟩
  have HB4 := Aside0.mk (below_then HB3.out HB3.out.size hb)
  have HI4 := Aside0.mk (HI3.out.below hb)
  have HR4 := Aside0.mk (Kd.R_below HR3.out hb)
  have HZ4 := Aside0.mk (blk_below HZ3.out hb)
  clear hb HB3 HI3 HR3 HZ3
  obtain ⟨hcg0, hcg1, hcg2, hcg3, hcg4, hfg0, hfg1, hfg2, hfg3, hfg4⟩ := HI4.out.cells
  go_wp2_with (first | ((with_reducible refine gate_store (t := 3) (p := 32) rfl ?_); refine store_event (t := 3) (p := 32) (v := ?vo) (w1 := (w4.setCell ⟨w.heap.size + 1 + 1, 3, none⟩ (.int .i64 (wrap64 (t - n))))) ?hg ?ho ?hn ?hr ?_; (case ho => rfl); (case hg => rfl); (case hn => rfl); (case hr => first | (go_simp; done) | (go_simp; rfl)); intro w5 hw5; have HI5 : Aside0 (StT w5 (w.heap.size + 1 + 1) a0 a1 now (wrap64 (t - n)) (.slice A1 l.length c1)) := Aside0.mk (by rw [hw5]; exact blk_put HI4.out 3 _ rfl); have HR5 : Aside0 (Kd.R k71 71 w5 w.heap.size (fun _ => True) (.slice A1 l.length c1) l) := Aside0.mk (by rw [hw5]; exact Kd.R_set HR4.out HI4.out (by decide) 3 _); have HB5 : Aside0 (Below w.heap.size w w5) := Aside0.mk (by rw [hw5]; exact below_set HB4.out hgg); have HZ5 : Aside0 (w5.heap[w.heap.size + 1]? = some (.cells #[.int .i64 0, .int .i64 0, .int .i64 0, .int .i64 0, .slice none 0 0] 24 (0, 0))) := Aside0.mk (by rw [hw5]; exact blk_far HZ4.out (Nat.ne_of_lt (Nat.lt_succ_self _)) _); clear hw5 HI4 HR4 HB4 HZ4 hcg0 hcg1 hcg2 hcg3 hcg4 hfg0 hfg1 hfg2 hfg3 hfg4; obtain ⟨hcg0, hcg1, hcg2, hcg3, hcg4, hfg0, hfg1, hfg2, hfg3, hfg4⟩ := HI5.out.cells; have hz := HZ5.out; have hchz0 := (blk_cell hz 0).trans rfl; have hchz1 := (blk_cell hz 1).trans rfl; have hchz2 := (blk_cell hz 2).trans rfl; have hchz3 := (blk_cell hz 3).trans rfl; have hchz4 := (blk_cell hz 4).trans rfl; have hfhz0 := blk_frozen hz 0; have hfhz1 := blk_frozen hz 1; have hfhz2 := blk_frozen hz 2; have hfhz3 := blk_frozen hz 3; have hfhz4 := blk_frozen hz 4; clear hz))
  refine bodyPost_ret (results_ct rfl _ _ (w.heap.size + 1) 24 #[.int .i64 a0, .int .i64 a1, .int .i64 now, .int .i64 (wrap64 (t - n)), .slice A1 l.length c1] (0, 0) _ rfl (blk_put5 HZ5.out) Try.underlying24 rfl (by kernel_rfl)) rfl ?_
  exact ⟨_, rfl, Kd.Q_of_R (R_set5 HR5.out HZ5.out _ _ _ _ _), below_set5 HB5.out hgz⟩


set_option maxHeartbeats 8000000 in
set_option maxRecDepth 100000 in
theorem progress_some (k : Nat) (a0 a1 a2 a3 : Int) (A : Option Addr) (c : Nat) (l : List S71) (now n : Int) (w : World) (hr : Kd.C k71 w A l.length l) (hc : l.length ≤ c) (h : throttle_Check.f k a0 a1 a2 a3 l = some 0) (hn : throttle_between.f now a2 1073741824 = some true) (hcl : api_Mark_44.f l = some l) (cf t : Int) (hcf : throttle_state_confirmed.f a0 a1 now a3 l = some cf) (ht : throttle_state_total.f a0 a1 now a3 l = some t) (o mi : Int) (hbt : throttle_between.f n cf t = some true) (hl : 0 < l.length) (ho : throttle_state_open.f a0 a1 now (wrap64 (t - n)) l n = some o) (hmi : mi = if (l.length : Int) - 1 < o then (l.length : Int) - 1 else o) (hm0 : 0 ≤ mi) (hm1 : mi ≤ l.length) (hbig : l.length ≤ 4096) :
    Calls Try.prog 19 #[.agg #[.int .i64 a0, .int .i64 a1, .int .i64 a2, .int .i64 a3, .slice A l.length c], .int .i64 now, .int .i64 n] w fun e' w' => ∃ v, e' = .returned (.tuple #[.agg #[.int .i64 a0, .int .i64 a1, .int .i64 now, .int .i64 (wrap64 (t - n)), v], .int .i64 0]) ∧ Kd.Q k71 71 w' w.heap.size (fun _ => True) v (l.drop mi.toNat) ∧ Below w.heap.size w w' := by
  have hu73 := Try.underlying73
  have hu24 := Try.underlying24
  have HR := Aside0.mk hr
  have HC := Aside0.mk hc
  have H := Aside0.mk h
  clear hr hc h
  have HN := Aside0.mk hn
  clear hn
  have HCL := Aside0.mk hcl
  clear hcl
  have HCF := Aside0.mk hcf
  clear hcf
  have HT := Aside0.mk ht
  clear ht
  have HBT := Aside0.mk hbt
  clear hbt
  have HO := Aside0.mk ho
  clear ho
  have hd0 : decide (0 < l.length) = true := decide_eq_true hl
  obtain ⟨lm, hlm⟩ : ∃ lm : Int, lm = (l.length : Int) - 1 := ⟨_, rfl⟩
  have HW : Aside0 (IntKind.i64.wrap ((l.length : Int) - 1) = lm) := Aside0.mk (by rw [hlm]; exact IntWalk.i64_in _ (by omega))
  have HMI : Aside0 ((if lm < o then lm else o) = mi) := Aside0.mk (by rw [hlm]; exact hmi.symm)
  have HM0 := Aside0.mk hm0
  have HM1 := Aside0.mk hm1
  clear hl hmi hlm hm0 hm1
  go_enter Try.func19, Try.ntmps19
  go_wp2_with fail
  have hW := tri_alloc w #[.int .i64 a0, .int .i64 a1, .int .i64 a2, .int .i64 a3, .slice A l.length c] #[.int .i64 0, .int .i64 0, .int .i64 0, .int .i64 0, .slice none 0 0] #[.int .i64 a0, .int .i64 a1, .int .i64 a2, .int .i64 a3, .slice A l.length c]
  generalize (((w.alloc (.cells #[.int .i64 a0, .int .i64 a1, .int .i64 a2, .int .i64 a3, .slice A l.length c] 24)).alloc (.cells #[.int .i64 0, .int .i64 0, .int .i64 0, .int .i64 0, .slice none 0 0] 24)).alloc (.cells #[.int .i64 a0, .int .i64 a1, .int .i64 a2, .int .i64 a3, .slice A l.length c] 73)) = W at hW ⊢
  have hgz : w.heap.size ≤ w.heap.size + 1 := Nat.le_succ _
  have hgg : w.heap.size ≤ w.heap.size + 1 + 1 := Nat.le_succ_of_le (Nat.le_succ _)
  refine (advance_yes k (w.heap.size + 1 + 1) a0 a1 a2 a3 A c l l now w W hW.1 hW.2.2 hgg HR.out HC.out H.out HN.out HCL.out).mono ?_
  rintro e' w1 ⟨v, rfl, hI, hR, hb, hk⟩
  obtain ⟨A1, c1, rfl, hl1, hC⟩ := Kd.R_reads hR
  have HI1 := Aside0.mk hI
  have HR1 := Aside0.mk hR
  have HB1 := Aside0.mk hb
  have HZ1 := Aside0.mk (hk _ _ hW.2.1)
  have HL1 := Aside0.mk hl1
  clear hI hR hC hb hk hW hl1
  obtain ⟨hcg0, hcg1, hcg2, hcg3, hcg4, hfg0, hfg1, hfg2, hfg3, hfg4⟩ := HI1.out.cells
  go_wp2
  clear hcg0 hcg1 hcg2 hcg3 hcg4 hfg0 hfg1 hfg2 hfg3 hfg4
  refine start_ (n := 7) (S := fun w' => w'.cell? ⟨w.heap.size + 1 + 1, 0, none⟩ = some (.int .i64 a0) ∧ w'.cell? ⟨w.heap.size + 1 + 1, 1, none⟩ = some (.int .i64 a1) ∧ w'.cell? ⟨w.heap.size + 1 + 1, 2, none⟩ = some (.int .i64 now) ∧ w'.cell? ⟨w.heap.size + 1 + 1, 3, none⟩ = some (.int .i64 a3) ∧ w'.cell? ⟨w.heap.size + 1 + 1, 4, none⟩ = some (.slice A1 l.length c1) ∧ Aside0 (StT w' (w.heap.size + 1 + 1) a0 a1 now a3 (.slice A1 l.length c1)) ∧ Aside0 (Kd.R k71 71 w' w.heap.size (fun _ => True) (.slice A1 l.length c1) l) ∧ Aside0 (Below w.heap.size w w') ∧ Aside0 (w'.heap[w.heap.size + 1]? = some (.cells #[.int .i64 0, .int .i64 0, .int .i64 0, .int .i64 0, .slice none 0 0] 24 (0, 0)))) (ds := []) #[false, false, false, false, false, false, false] (by kernel_rfl) rfl rfl ⟨HI1.out.cells.1, HI1.out.cells.2.1, HI1.out.cells.2.2.1, HI1.out.cells.2.2.2.1, HI1.out.cells.2.2.2.2.1, ⟨HI1.out⟩, ⟨Kd.R_drewN HR1.out 1⟩, ⟨pw_below_drewN HB1.out 1⟩, ⟨HZ1.out⟩⟩ (fun hHeld => ?_)
  refine pure_ (i := 0) (N := some 19) (v := ?_) (a' := ?_) #[true, false, false, false, false, false, false] rfl rfl (by kernel_rfl) (fun _ _ _ h => h) (Or.inl ⟨by rfl, ?_⟩) ?_ ?_
  rotate_left
  · intro w'
    go_simp
    with_reducible rfl
  rotate_left
  · simp only [Act.put, List.setIfInBounds_toArray, List.set_cons_zero, List.set_cons_succ, i64_w, i32_w]
    rfl
  refine take_ (i := 1) (N := some 20) (v := ?_) (a' := ?_) #[true, true, false, false, false, false, false] rfl rfl (by kernel_rfl) (fun _ _ _ h => h) (Or.inl ⟨by rfl, ?_⟩) hHeld ?_ ?_
  rotate_left
  · rintro w' ⟨s0, s1, s2, s3, s4, s5, s6, s7, s8⟩
    go_simp
    with_reducible rfl
  rotate_left
  · simp only [Act.put, List.setIfInBounds_toArray, List.set_cons_zero, List.set_cons_succ, i64_w, i32_w]
    rfl
  refine take_ (i := 3) (N := some 22) (v := ?_) (a' := ?_) #[true, true, false, true, false, false, false] rfl rfl (by kernel_rfl) (fun _ _ _ h => h) (Or.inl ⟨by rfl, ?_⟩) hHeld ?_ ?_
  rotate_left
  · rintro w' ⟨s0, s1, s2, s3, s4, s5, s6, s7, s8⟩
    go_simp
    with_reducible rfl
  rotate_left
  · simp only [Act.put, List.setIfInBounds_toArray, List.set_cons_zero, List.set_cons_succ, i64_w, i32_w]
    rfl
  refine one_ (i := 2) (N := some 21) #[true, true, true, true, false, false, false] rfl rfl (by kernel_rfl) (by decide) (fun K hK => ?_)
  refine goes_ Try.func30 (by kernel_rfl) rfl #[.agg #[.int .i64 a0, .int .i64 a1, .int .i64 now, .int .i64 a3, .slice A1 l.length c1]] (by rfl) rfl rfl (by simp only [List.map_toArray, List.map_cons, List.map_nil]; rfl) ?_
  with_reducible refine (throttle_state_confirmed.calls a0 a1 now a3 A1 c1 l cf _ (Kd.R_reads' hHeld.2.2.2.2.2.2.1.out).2.2 HL1.out HCF.out).mono ?_
  rintro e w4 ⟨rfl, hb⟩
  refine ⟨_, rfl, ?_⟩
  have HS := hHeld; clear hHeld; obtain ⟨-, -, -, -, -, HI5, HR5, HB5, HZ5⟩ := HS
  have HI6 := Aside0.mk (HI5.out.below hb); have HR6 := Aside0.mk (Kd.R_below HR5.out hb); have HB6 := Aside0.mk (below_then HB5.out HB5.out.size hb); have HZ6 := Aside0.mk (blk_below HZ5.out hb)
  clear HI5 HR5 HB5 HZ5 hb
  refine hK.out _ _ ⟨HI6.out.cells.1, HI6.out.cells.2.1, HI6.out.cells.2.2.1, HI6.out.cells.2.2.2.1, HI6.out.cells.2.2.2.2.1, HI6, HR6, HB6, HZ6⟩ (fun hHeld => ?_)
  clear hK K
  refine norm_ (a' := ?_) ?_ ?_
  rotate_left
  · show Act.put _ (some 21) _ = _
    simp only [Act.put, List.setIfInBounds_toArray, List.set_cons_zero, List.set_cons_succ, i64_w, i32_w]
    rfl
  refine one_ (i := 4) (N := some 23) #[true, true, true, true, true, false, false] rfl rfl (by kernel_rfl) (by decide) (fun K hK => ?_)
  refine goes_ Try.func28 (by kernel_rfl) rfl #[.agg #[.int .i64 a0, .int .i64 a1, .int .i64 now, .int .i64 a3, .slice A1 l.length c1]] (by rfl) rfl rfl (by simp only [List.map_toArray, List.map_cons, List.map_nil]; rfl) ?_
  with_reducible refine (throttle_state_total.calls a0 a1 now a3 A1 c1 l t _ (Kd.R_reads' hHeld.2.2.2.2.2.2.1.out).2.2 HL1.out HT.out).mono ?_
  rintro e w4 ⟨rfl, hb⟩
  refine ⟨_, rfl, ?_⟩
  have HS := hHeld; clear hHeld; obtain ⟨-, -, -, -, -, HI5, HR5, HB5, HZ5⟩ := HS
  have HI6 := Aside0.mk (HI5.out.below hb); have HR6 := Aside0.mk (Kd.R_below HR5.out hb); have HB6 := Aside0.mk (below_then HB5.out HB5.out.size hb); have HZ6 := Aside0.mk (blk_below HZ5.out hb)
  clear HI5 HR5 HB5 HZ5 hb
  refine hK.out _ _ ⟨HI6.out.cells.1, HI6.out.cells.2.1, HI6.out.cells.2.2.1, HI6.out.cells.2.2.2.1, HI6.out.cells.2.2.2.2.1, HI6, HR6, HB6, HZ6⟩ (fun hHeld => ?_)
  clear hK K
  refine norm_ (a' := ?_) ?_ ?_
  rotate_left
  · show Act.put _ (some 23) _ = _
    simp only [Act.put, List.setIfInBounds_toArray, List.set_cons_zero, List.set_cons_succ, i64_w, i32_w]
    rfl
  refine one_ (i := 5) (N := some 24) #[true, true, true, true, true, true, false] rfl rfl (by kernel_rfl) (by decide) (fun K hK => ?_)
  refine goes_ Try.func27 (by kernel_rfl) rfl #[.int .i64 n, .int .i64 cf, .int .i64 t] (by rfl) rfl rfl (by simp only [List.map_toArray, List.map_cons, List.map_nil]; rfl) ?_
  with_reducible refine (throttle_between.calls n cf t true _ HBT.out).mono ?_
  rintro e w4 ⟨rfl, hb⟩
  replace hb := hb.below
  refine ⟨_, rfl, ?_⟩
  have HS := hHeld; clear hHeld; obtain ⟨-, -, -, -, -, HI5, HR5, HB5, HZ5⟩ := HS
  have HI6 := Aside0.mk (HI5.out.below hb); have HR6 := Aside0.mk (Kd.R_below HR5.out hb); have HB6 := Aside0.mk (below_then HB5.out HB5.out.size hb); have HZ6 := Aside0.mk (blk_below HZ5.out hb)
  clear HI5 HR5 HB5 HZ5 hb
  refine hK.out _ _ ⟨HI6.out.cells.1, HI6.out.cells.2.1, HI6.out.cells.2.2.1, HI6.out.cells.2.2.2.1, HI6.out.cells.2.2.2.2.1, HI6, HR6, HB6, HZ6⟩ (fun hHeld => ?_)
  clear hK K
  refine norm_ (a' := ?_) ?_ ?_
  rotate_left
  · show Act.put _ (some 24) _ = _
    simp only [Act.put, List.setIfInBounds_toArray, List.set_cons_zero, List.set_cons_succ, i64_w, i32_w]
    rfl
  refine pure_ (i := 6) (N := some 25) (v := ?_) (a' := ?_) #[true, true, true, true, true, true, true] rfl rfl (by kernel_rfl) (fun _ _ _ h => h) (Or.inl ⟨by rfl, ?_⟩) ?_ ?_
  rotate_left
  · intro w'
    go_simp
    with_reducible rfl
  rotate_left
  · simp only [Act.put, List.setIfInBounds_toArray, List.set_cons_zero, List.set_cons_succ, i64_w, i32_w]
    rfl
  refine done_ (by kernel_rfl) ?_
  obtain ⟨-, -, -, -, -, HI3, HR3, HB3, HZ3⟩ := hHeld
  clear HI1 HR1 HB1 HZ1
  obtain ⟨hcg0, hcg1, hcg2, hcg3, hcg4, hfg0, hfg1, hfg2, hfg3, hfg4⟩ := HI3.out.cells
  go_wp2_with fail
  clear hcg0 hcg1 hcg2 hcg3 hcg4 hfg0 hfg1 hfg2 hfg3 hfg4
  refine (throttle_state_total.calls a0 a1 now a3 A1 c1 l t _ (Kd.R_reads' HR3.out).2.2 HL1.out HT.out).mono ?_
  rintro e' w4 ⟨rfl, hb⟩
  have HB4 := Aside0.mk (below_then HB3.out HB3.out.size hb)
  have HI4 := Aside0.mk (HI3.out.below hb)
  have HR4 := Aside0.mk (Kd.R_below HR3.out hb)
  have HZ4 := Aside0.mk (blk_below HZ3.out hb)
  clear hb HB3 HI3 HR3 HZ3
  obtain ⟨hcg0, hcg1, hcg2, hcg3, hcg4, hfg0, hfg1, hfg2, hfg3, hfg4⟩ := HI4.out.cells
  go_wp2_with (first | ((with_reducible refine gate_store (t := 3) (p := 32) rfl ?_); refine store_event (t := 3) (p := 32) (v := ?vo) (w1 := (w4.setCell ⟨w.heap.size + 1 + 1, 3, none⟩ (.int .i64 (wrap64 (t - n))))) ?hg ?ho ?hn ?hr ?_; (case ho => rfl); (case hg => rfl); (case hn => rfl); (case hr => first | (go_simp; done) | (go_simp; rfl)); intro w5 hw5; have HI5 : Aside0 (StT w5 (w.heap.size + 1 + 1) a0 a1 now (wrap64 (t - n)) (.slice A1 l.length c1)) := Aside0.mk (by rw [hw5]; exact blk_put HI4.out 3 _ rfl); have HR5 : Aside0 (Kd.R k71 71 w5 w.heap.size (fun _ => True) (.slice A1 l.length c1) l) := Aside0.mk (by rw [hw5]; exact Kd.R_set HR4.out HI4.out (by decide) 3 _); have HB5 : Aside0 (Below w.heap.size w w5) := Aside0.mk (by rw [hw5]; exact below_set HB4.out hgg); have HZ5 : Aside0 (w5.heap[w.heap.size + 1]? = some (.cells #[.int .i64 0, .int .i64 0, .int .i64 0, .int .i64 0, .slice none 0 0] 24 (0, 0))) := Aside0.mk (by rw [hw5]; exact blk_far HZ4.out (Nat.ne_of_lt (Nat.lt_succ_self _)) _); clear hw5 HI4 HR4 HB4 HZ4 hcg0 hcg1 hcg2 hcg3 hcg4 hfg0 hfg1 hfg2 hfg3 hfg4; obtain ⟨hcg0, hcg1, hcg2, hcg3, hcg4, hfg0, hfg1, hfg2, hfg3, hfg4⟩ := HI5.out.cells))
  clear hcg0 hcg1 hcg2 hcg3 hcg4 hfg0 hfg1 hfg2 hfg3 hfg4
  obtain ⟨i71, hi71, hi71'⟩ := Option.map_eq_some_iff.1 info71
  obtain ⟨Ac, nc, cc, hAc, hnc, hcc⟩ : ∃ (Ac : Option Addr) (nc cc : Nat), Ac = (if c1 = mi.toNat then A1 else A1.map (·.add (mi.toNat * 2))) ∧ nc = l.length - mi.toNat ∧ cc = c1 - mi.toNat := ⟨_, _, _, rfl, rfl, rfl⟩
  have hcut : ∀ W : World, (Instr.slice 22 (.slice A1 l.length c1) (some (.int .i64 mi)) none none).run Try.prog W = .ok (.slice Ac nc cc) W := by
    rw [hAc, hnc, hcc]
    exact cut_from 22 71 .i64 Try.underlying22 hi71 2 (by simp only [Prod.mk.injEq] at hi71'; exact hi71'.2.1) A1 l.length c1 mi HM0.out HM1.out
  have HQC : ∀ W, Kd.R k71 71 W w.heap.size (fun _ => True) (.slice A1 l.length c1) l → Kd.Q k71 71 W w.heap.size (fun _ => True) (.slice Ac nc cc) (l.drop mi.toNat) := fun W h => by
    rw [hAc, hnc, hcc]
    exact Kd.Q_drop (Kd.Q_of_R h) (by have := HM0.out; have := HM1.out; omega)
  have HQA := Aside0.mk HQC
  clear hi71 hi71' hAc hnc hcc HQC
  have hw := HW.out
  have hmin := HMI.out
  refine start_ (n := 13) (S := fun w' => w'.cell? ⟨w.heap.size + 1 + 1, 0, none⟩ = some (.int .i64 a0) ∧ w'.cell? ⟨w.heap.size + 1 + 1, 1, none⟩ = some (.int .i64 a1) ∧ w'.cell? ⟨w.heap.size + 1 + 1, 2, none⟩ = some (.int .i64 now) ∧ w'.cell? ⟨w.heap.size + 1 + 1, 3, none⟩ = some (.int .i64 (wrap64 (t - n))) ∧ w'.cell? ⟨w.heap.size + 1 + 1, 4, none⟩ = some (.slice A1 l.length c1) ∧ Aside0 (StT w' (w.heap.size + 1 + 1) a0 a1 now (wrap64 (t - n)) (.slice A1 l.length c1)) ∧ Aside0 (Kd.R k71 71 w' w.heap.size (fun _ => True) (.slice A1 l.length c1) l) ∧ Aside0 (Below w.heap.size w w') ∧ Aside0 (w'.heap[w.heap.size + 1]? = some (.cells #[.int .i64 0, .int .i64 0, .int .i64 0, .int .i64 0, .slice none 0 0] 24 (0, 0)))) (ds := [12]) #[false, false, false, false, false, false, false, false, false, false, false, false, false] (by kernel_rfl) rfl rfl ⟨HI5.out.cells.1, HI5.out.cells.2.1, HI5.out.cells.2.2.1, HI5.out.cells.2.2.2.1, HI5.out.cells.2.2.2.2.1, ⟨HI5.out⟩, ⟨Kd.R_drewN HR5.out 1⟩, ⟨pw_below_drewN HB5.out 1⟩, ⟨HZ5.out⟩⟩ (fun hHeld => ?_)
  refine pure_ (i := 0) (N := some 39) (v := ?_) (a' := ?_) #[true, false, false, false, false, false, false, false, false, false, false, false, false] rfl rfl (by kernel_rfl) (fun _ _ _ h => h) (Or.inl ⟨by rfl, ?_⟩) ?_ ?_
  rotate_left
  · intro w'
    go_simp
    with_reducible rfl
  rotate_left
  · simp only [Act.put, List.setIfInBounds_toArray, List.set_cons_zero, List.set_cons_succ, i64_w, i32_w]
    rfl
  refine pure_ (i := 1) (N := some 40) (v := ?_) (a' := ?_) #[true, true, false, false, false, false, false, false, false, false, false, false, false] rfl rfl (by kernel_rfl) (fun _ _ _ h => h) (Or.inl ⟨by rfl, ?_⟩) ?_ ?_
  rotate_left
  · intro w'
    go_simp
    with_reducible rfl
  rotate_left
  · simp only [Act.put, List.setIfInBounds_toArray, List.set_cons_zero, List.set_cons_succ, i64_w, i32_w]
    rfl
  refine pure_ (i := 4) (N := some 43) (v := ?_) (a' := ?_) #[true, true, false, false, true, false, false, false, false, false, false, false, false] rfl rfl (by kernel_rfl) (fun _ _ _ h => h) (Or.inl ⟨by rfl, ?_⟩) ?_ ?_
  rotate_left
  · intro w'
    go_simp
    with_reducible rfl
  rotate_left
  · simp only [Act.put, List.setIfInBounds_toArray, List.set_cons_zero, List.set_cons_succ, i64_w, i32_w]
    rfl
  refine pure_ (i := 6) (N := some 45) (v := ?_) (a' := ?_) #[true, true, false, false, true, false, true, false, false, false, false, false, false] rfl rfl (by kernel_rfl) (fun _ _ _ h => h) (Or.inl ⟨by rfl, ?_⟩) ?_ ?_
  rotate_left
  · intro w'
    go_simp
    with_reducible rfl
  rotate_left
  · simp only [Act.put, List.setIfInBounds_toArray, List.set_cons_zero, List.set_cons_succ, i64_w, i32_w]
    rfl
  refine pure_ (i := 7) (N := some 46) (v := ?_) (a' := ?_) #[true, true, false, false, true, false, true, true, false, false, false, false, false] rfl rfl (by kernel_rfl) (fun _ _ _ h => h) (Or.inl ⟨by rfl, ?_⟩) ?_ ?_
  rotate_left
  · intro w'
    go_simp
    with_reducible rfl
  rotate_left
  · simp only [Act.put, List.setIfInBounds_toArray, List.set_cons_zero, List.set_cons_succ, i64_w, i32_w]
    rfl
  refine take_ (i := 2) (N := some 41) (v := ?_) (a' := ?_) #[true, true, true, false, true, false, true, true, false, false, false, false, false] rfl rfl (by kernel_rfl) (fun _ _ _ h => h) (Or.inl ⟨by rfl, ?_⟩) hHeld ?_ ?_
  rotate_left
  · rintro w' ⟨s0, s1, s2, s3, s4, s5, s6, s7, s8⟩
    go_simp
    with_reducible rfl
  rotate_left
  · simp only [Act.put, List.setIfInBounds_toArray, List.set_cons_zero, List.set_cons_succ, i64_w, i32_w]
    rfl
  refine take_ (i := 3) (N := some 42) (v := ?_) (a' := ?_) #[true, true, true, true, true, false, true, true, false, false, false, false, false] rfl rfl (by kernel_rfl) (fun _ _ _ h => h) (Or.inl ⟨by rfl, ?_⟩) hHeld ?_ ?_
  rotate_left
  · rintro w' ⟨s0, s1, s2, s3, s4, s5, s6, s7, s8⟩
    go_simp
    with_reducible rfl
  rotate_left
  · simp only [Act.put, List.setIfInBounds_toArray, List.set_cons_zero, List.set_cons_succ, i64_w, i32_w]
    rfl
  refine one_ (i := 5) (N := some 44) #[true, true, true, true, true, true, true, true, false, false, false, false, false] rfl rfl (by kernel_rfl) (by decide) (fun K hK => ?_)
  refine goes_ Try.func29 (by kernel_rfl) rfl #[.agg #[.int .i64 a0, .int .i64 a1, .int .i64 now, .int .i64 (wrap64 (t - n)), .slice A1 l.length c1], .int .i64 n] (by rfl) rfl rfl (by simp only [List.map_toArray, List.map_cons, List.map_nil]; rfl) ?_
  with_reducible refine (throttle_state_open.calls a0 a1 now (wrap64 (t - n)) A1 c1 l n o _ (Kd.R_reads' hHeld.2.2.2.2.2.2.1.out).2.2 HL1.out HO.out).mono ?_
  rintro e w4 ⟨rfl, hb⟩
  refine ⟨_, rfl, ?_⟩
  have HS := hHeld; clear hHeld; obtain ⟨-, -, -, -, -, HI5, HR5, HB5, HZ5⟩ := HS
  have HI6 := Aside0.mk (HI5.out.below hb); have HR6 := Aside0.mk (Kd.R_below HR5.out hb); have HB6 := Aside0.mk (below_then HB5.out HB5.out.size hb); have HZ6 := Aside0.mk (blk_below HZ5.out hb)
  clear HI5 HR5 HB5 HZ5 hb
  refine hK.out _ _ ⟨HI6.out.cells.1, HI6.out.cells.2.1, HI6.out.cells.2.2.1, HI6.out.cells.2.2.2.1, HI6.out.cells.2.2.2.2.1, HI6, HR6, HB6, HZ6⟩ (fun hHeld => ?_)
  clear hK K
  refine norm_ (a' := ?_) ?_ ?_
  rotate_left
  · show Act.put _ (some 44) _ = _
    simp only [Act.put, List.setIfInBounds_toArray, List.set_cons_zero, List.set_cons_succ, i64_w, i32_w]
    rfl
  refine pure_ (i := 8) (N := some 47) (v := ?_) (a' := ?_) #[true, true, true, true, true, true, true, true, true, false, false, false, false] rfl rfl (by kernel_rfl) (fun _ _ _ h => h) (Or.inl ⟨by rfl, ?_⟩) ?_ ?_
  rotate_left
  · intro w'
    go_simp
    with_reducible rfl
  rotate_left
  · simp only [Act.put, List.setIfInBounds_toArray, List.set_cons_zero, List.set_cons_succ, i64_w, i32_w]
    rfl
  refine pure_ (i := 9) (N := some 48) (v := ?_) (a' := ?_) #[true, true, true, true, true, true, true, true, true, true, false, false, false] rfl rfl (by kernel_rfl) (fun _ _ _ h => h) (Or.inl ⟨by rfl, ?_⟩) ?_ ?_
  rotate_left
  · intro w'
    go_simp
    with_reducible rfl
  rotate_left
  · simp only [Act.put, List.setIfInBounds_toArray, List.set_cons_zero, List.set_cons_succ, i64_w, i32_w]
    rfl
  refine pure_ (i := 10) (N := some 49) (v := ?_) (a' := ?_) #[true, true, true, true, true, true, true, true, true, true, true, false, false] rfl rfl (by kernel_rfl) (fun _ _ _ h => h) (Or.inl ⟨by rfl, ?_⟩) ?_ ?_
  rotate_left
  · intro w'
    go_simp
    with_reducible rfl
  rotate_left
  · simp only [Act.put, List.setIfInBounds_toArray, List.set_cons_zero, List.set_cons_succ, i64_w, i32_w]
    rfl
  refine pure_ (i := 11) (N := some 50) (v := ?_) (a' := ?_) #[true, true, true, true, true, true, true, true, true, true, true, true, false] rfl rfl (by kernel_rfl) (fun _ _ _ h => h) (Or.inl ⟨by rfl, ?_⟩) ?_ ?_
  rotate_left
  · intro w'
    go_simp
    with_reducible rfl
  rotate_left
  · simp only [Act.put, List.setIfInBounds_toArray, List.set_cons_zero, List.set_cons_succ, i64_w, i32_w]
    rfl
  refine last_ (i := 12) (N := none) #[true, true, true, true, true, true, true, true, true, true, true, true, true] rfl rfl (by kernel_rfl) (by decide) (fun K hK => ?_)
  have HS := hHeld; clear hHeld; obtain ⟨-, -, -, -, -, HI6, HR6, HB6, HZ6⟩ := HS
  obtain ⟨hcg0, hcg1, hcg2, hcg3, hcg4, hfg0, hfg1, hfg2, hfg3, hfg4⟩ := HI6.out.cells
  refine skip_ (w1 := ?_) (by rfl) rfl ?_ ?_
  rotate_left
  · go_simp
    rfl
  refine hK.out _ _ ?_
  clear hK K
  refine done_ (by kernel_rfl) ?_
  have HI7 := Aside0.mk (show StT (_ : World) (w.heap.size + 1 + 1) a0 a1 now (wrap64 (t - n)) (.slice Ac nc cc) from blk_put HI6.out 4 (.slice Ac nc cc) rfl)
  have HR7 := Aside0.mk (Kd.Q_set (HQA.out _ HR6.out) HI6.out (by decide) 4 (.slice Ac nc cc))
  have HB7 := Aside0.mk (below_set (j := 4) (v := .slice Ac nc cc) HB6.out hgg)
  have HZ7 := Aside0.mk (blk_far HZ6.out (p := ⟨w.heap.size + 1 + 1, 4, none⟩) (Nat.ne_of_lt (Nat.lt_succ_self _)) (.slice Ac nc cc))
  clear HI6 HR6 HB6 HZ6 HI5 HR5 HB5 HZ5 hcg0 hcg1 hcg2 hcg3 hcg4 hfg0 hfg1 hfg2 hfg3 hfg4
  obtain ⟨hcg0, hcg1, hcg2, hcg3, hcg4, hfg0, hfg1, hfg2, hfg3, hfg4⟩ := HI7.out.cells
  have hz := HZ7.out
  have hchz0 := (blk_cell hz 0).trans rfl
  have hchz1 := (blk_cell hz 1).trans rfl
  have hchz2 := (blk_cell hz 2).trans rfl
  have hchz3 := (blk_cell hz 3).trans rfl
  have hchz4 := (blk_cell hz 4).trans rfl
  have hfhz0 := blk_frozen hz 0
  have hfhz1 := blk_frozen hz 1
  have hfhz2 := blk_frozen hz 2
  have hfhz3 := blk_frozen hz 3
  have hfhz4 := blk_frozen hz 4
  clear hz
  go_wp2
  refine bodyPost_ret (results_ct rfl _ _ (w.heap.size + 1) 24 #[.int .i64 a0, .int .i64 a1, .int .i64 now, .int .i64 (wrap64 (t - n)), .slice Ac nc cc] (0, 0) _ rfl (blk_put5 HZ7.out) Try.underlying24 rfl (by kernel_rfl)) rfl ?_
  exact ⟨_, rfl, Q_set5 HR7.out HZ7.out _ _ _ _ _, below_set5 HB7.out hgz⟩



def throttle_Progress.g (a0_0 : Int) (a0_1 : Int) (a0_2 : Int) (a0_3 : Int) (l0_4 : List (S71)) (a1 : Int) (a2 : Int) : Option (Int × Int × Int × Int × (List (S71)) × Int) :=
  if 4096 < l0_4.length then none
  else if ¬ (a0_2 ≤ a1 ∧ a1 ≤ 1073741824) then some (0, 0, 0, 0, ([] : List (S71)), 24)
  else (throttle_state_confirmed.f a0_0 a0_1 a1 a0_3 l0_4).bind fun cf => (throttle_state_total.f a0_0 a0_1 a1 a0_3 l0_4).bind fun t =>
    if ¬ (cf ≤ a2 ∧ a2 ≤ t) then some (0, 0, 0, 0, ([] : List (S71)), 2)
    else if l0_4.length = 0 then some (a0_0, a0_1, a1, wrap64 (t - a2), l0_4, 0)
    else (throttle_state_open.f a0_0 a0_1 a1 (wrap64 (t - a2)) l0_4 a2).bind fun o =>
      if 0 ≤ o ∧ o ≤ l0_4.length then some (a0_0, a0_1, a1, wrap64 (t - a2), l0_4.drop (if (l0_4.length : Int) - 1 < o then (l0_4.length : Int) - 1 else o).toNat, 0) else none
def throttle_Progress.f (k : Nat) (a0_0 : Int) (a0_1 : Int) (a0_2 : Int) (a0_3 : Int) (l0_4 : List (S71)) (a1 : Int) (a2 : Int) : Option (Int × Int × Int × Int × (List (S71)) × Int) :=
  (throttle_Check.f k a0_0 a0_1 a0_2 a0_3 l0_4).bind fun e => if e = 0 then throttle_Progress.g a0_0 a0_1 a0_2 a0_3 l0_4 a1 a2 else some (0, 0, 0, 0, ([] : List (S71)), e)
theorem throttle_Progress.mono : ∀ a0 a1 a2 a3 a4 a5 a6 k, LeO (throttle_Progress.f k a0 a1 a2 a3 a4 a5 a6) (throttle_Progress.f (k + 1) a0 a1 a2 a3 a4 a5 a6) := by
  intro a0 a1 a2 a3 a4 a5 a6 k
  unfold throttle_Progress.f
  exact LeO.bind (throttle_Check.mono _ _ _ _ _ k) (fun _ => LeO.refl _)
theorem throttle_Progress.calls (k : Nat) (a0_0 : Int) (a0_1 : Int) (a0_2 : Int) (a0_3 : Int) (A0_4 : Option Addr) (c0_4 : Nat) (l0_4 : List (S71)) (a1 : Int) (a2 : Int) (r1 : Int) (r2 : Int) (r3 : Int) (r4 : Int) (r5 : List (S71)) (r6 : Int) (w : World) (hr0_4 : Kd.C k71 w A0_4 l0_4.length l0_4) (hc0_4 : l0_4.length ≤ c0_4) (h : throttle_Progress.f k a0_0 a0_1 a0_2 a0_3 l0_4 a1 a2 = some (r1, r2, r3, r4, r5, r6)) :
    Calls Try.prog 19 #[.agg #[.int .i64 a0_0, .int .i64 a0_1, .int .i64 a0_2, .int .i64 a0_3, .slice A0_4 l0_4.length c0_4], .int .i64 a1, .int .i64 a2] w fun e w' => ∃ v4_ : Value, e = .returned (.tuple #[.agg #[.int .i64 r1, .int .i64 r2, .int .i64 r3, .int .i64 r4, v4_], .int .i64 r6]) ∧ Kd.Q k71 71 w' w.heap.size (fun _ => True) v4_ r5 ∧ Below w.heap.size w w' := by
  have zero : ∀ {e : Int} {E : Ending} {w' : World}, E = .returned (.tuple #[.agg #[.int .i64 0, .int .i64 0, .int .i64 0, .int .i64 0, .slice none 0 0], .int .i64 e]) ∧ Below w.heap.size w w' → ∃ v4_ : Value, E = .returned (.tuple #[.agg #[.int .i64 0, .int .i64 0, .int .i64 0, .int .i64 0, v4_], .int .i64 e]) ∧ Kd.Q k71 71 w' w.heap.size (fun _ => True) v4_ ([] : List S71) ∧ Below w.heap.size w w' :=
    fun h => ⟨_, h.1, Kd.Q_nil _ _ _ _ _, h.2⟩
  unfold throttle_Progress.f at h
  obtain ⟨e, hk, h⟩ := Option.bind_eq_some_iff.1 h
  by_cases he : e = 0
  · subst he
    rw [if_pos rfl] at h
    unfold throttle_Progress.g at h
    by_cases h1 : 4096 < l0_4.length
    · rw [if_pos h1] at h; cases h
    rw [if_neg h1] at h
    have hlen : l0_4.length ≤ 4096 := by omega
    have hcl : api_Mark_44.f l0_4 = some l0_4 := by unfold api_Mark_44.f; rw [if_pos (by omega)]
    by_cases h2 : a0_2 ≤ a1 ∧ a1 ≤ 1073741824
    · rw [if_neg (not_not_intro h2)] at h
      have hn := between_true h2
      obtain ⟨cf, hcf, h⟩ := Option.bind_eq_some_iff.1 h
      obtain ⟨t, ht, h⟩ := Option.bind_eq_some_iff.1 h
      by_cases h3 : cf ≤ a2 ∧ a2 ≤ t
      · rw [if_neg (not_not_intro h3)] at h
        have hb := between_true h3
        by_cases h4 : l0_4.length = 0
        · rw [if_pos h4] at h
          simp only [Option.some.injEq, Prod.mk.injEq] at h
          obtain ⟨rfl, rfl, rfl, rfl, rfl, rfl⟩ := h
          exact progress_none k a0_0 a0_1 a0_2 a0_3 A0_4 c0_4 l0_4 a1 a2 w hr0_4 hc0_4 hk hn hcl cf t hcf ht hb h4
        rw [if_neg h4] at h
        obtain ⟨o, ho, h⟩ := Option.bind_eq_some_iff.1 h
        by_cases h5 : 0 ≤ o ∧ o ≤ l0_4.length
        · rw [if_pos h5] at h
          simp only [Option.some.injEq, Prod.mk.injEq] at h
          obtain ⟨rfl, rfl, rfl, rfl, rfl, rfl⟩ := h
          exact progress_some k a0_0 a0_1 a0_2 a0_3 A0_4 c0_4 l0_4 a1 a2 w hr0_4 hc0_4 hk hn hcl cf t hcf ht o _ hb (by omega) ho rfl (by split <;> omega) (by split <;> omega) hlen
        · rw [if_neg h5] at h; cases h
      · rw [if_pos h3] at h
        simp only [Option.some.injEq, Prod.mk.injEq] at h
        obtain ⟨rfl, rfl, rfl, rfl, rfl, rfl⟩ := h
        exact (progress_range k a0_0 a0_1 a0_2 a0_3 A0_4 c0_4 l0_4 a1 a2 w hr0_4 hc0_4 hk hn hcl cf t hcf ht (between_false h3)).mono (fun _ _ => zero)
    · rw [if_pos h2] at h
      simp only [Option.some.injEq, Prod.mk.injEq] at h
      obtain ⟨rfl, rfl, rfl, rfl, rfl, rfl⟩ := h
      exact (progress_late k a0_0 a0_1 a0_2 a0_3 A0_4 c0_4 l0_4 a1 a2 w hr0_4 hc0_4 hk (between_false h2)).mono (fun _ _ => zero)
  · rw [if_neg he] at h
    simp only [Option.some.injEq, Prod.mk.injEq] at h
    obtain ⟨rfl, rfl, rfl, rfl, rfl, rfl⟩ := h
    exact (progress_no k a0_0 a0_1 a0_2 a0_3 A0_4 c0_4 l0_4 a1 a2 e w hr0_4 hc0_4 hk he).mono (fun _ _ => zero)

end Go.Proofs.Ytppniempndnghaa.PA
