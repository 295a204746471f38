-- Written by a program of this session (wip/tools) over the kit's print.
import Derived.Test.YtppniempndnghaaPAx0
import Derived.Test.YtppniempndnghaaPAx2
import Derived.Test.YtppniempndnghaaPAx3
import Derived.Test.YtppniempndnghaaPAx4
import Derived.Test.YtppniempndnghaaPAx5
import Derived.Test.YtppniempndnghaaPAx6
import Derived.Test.YtppniempndnghaaPAx7
import Derived.Test.YtppniempndnghaaPAx8
import Derived.Test.YtppniempndnghaaPAx9
namespace Go.Proofs.Ytppniempndnghaa.PA
open Go.RowKit Go.Proofs.YtppniempndnghaaW.PrintWords Go.Proofs.YtppniempndnghaaW.PrintLast Go.Proofs.YtppniempndnghaaW.PrintMore
attribute [local go_sem] max2_int min2_int max_two min_two max_three min_three max_four min_four   -- for this text's walks alone
set_option linter.unusedVariables false
set_option linter.unusedSimpArgs false

-- @OURS@
/-! ### throttle_Write: function 16 -/
/-- The world behind the begin of Write and Progress: the result's block, the state's block. -/
def StW (W w : World) (z s : Array Value) : Prop := W.heap[w.heap.size + 1 + 1]? = some (.cells s 73 (0, 0)) ∧ W.heap[w.heap.size + 1]? = some (.cells z 24 (0, 0)) ∧ Below w.heap.size w W
theorem tri_alloc (w : World) (t z s : Array Value) :
    StW (((w.alloc (.cells t 24)).alloc (.cells z 24)).alloc (.cells s 73)) w z s :=
  ⟨by have h := blk_new ((w.alloc (.cells t 24)).alloc (.cells z 24)) (.cells s 73); simpa using h,
   by have h := blk_alloc (blk_new (w.alloc (.cells t 24)) (.cells z 24)) (.cells s 73); simpa using h,
   below_alloc (below_alloc (below_alloc (Below.refl _ _) _) _) _⟩
theorem blk_put5 {w : World} {g : Nat} {t : TypeId} {c0 c1 c2 c3 c4 v0 v1 v2 v3 v4 : Value} (h : w.heap[g]? = some (.cells #[c0, c1, c2, c3, c4] t (0, 0))) :
    (((((w.setCell ⟨g, 0, none⟩ v0).setCell ⟨g, 1, none⟩ v1).setCell ⟨g, 2, none⟩ v2).setCell ⟨g, 3, none⟩ v3).setCell ⟨g, 4, none⟩ v4).heap[g]? = some (.cells #[v0, v1, v2, v3, v4] t (0, 0)) :=
  blk_put (blk_put (blk_put (blk_put (blk_put h 0 v0 rfl) 1 v1 rfl) 2 v2 rfl) 3 v3 rfl) 4 v4 rfl
theorem below_set5 {w W : World} {g : Nat} {v0 v1 v2 v3 v4 : Value} (h : Below w.heap.size w W) (hg : w.heap.size ≤ g) :
    Below w.heap.size w (((((W.setCell ⟨g, 0, none⟩ v0).setCell ⟨g, 1, none⟩ v1).setCell ⟨g, 2, none⟩ v2).setCell ⟨g, 3, none⟩ v3).setCell ⟨g, 4, none⟩ v4) :=
  below_set (below_set (below_set (below_set (below_set h hg) hg) hg) hg) hg
theorem blk_far5 {w : World} {g g' t : Nat} {cs : Array Value} (h : w.heap[g]? = some (.cells cs t (0, 0))) (hne : g ≠ g') (v0 v1 v2 v3 v4 : Value) :
    (((((w.setCell ⟨g', 0, none⟩ v0).setCell ⟨g', 1, none⟩ v1).setCell ⟨g', 2, none⟩ v2).setCell ⟨g', 3, none⟩ v3).setCell ⟨g', 4, none⟩ v4).heap[g]? = some (.cells cs t (0, 0)) :=
  blk_far (blk_far (blk_far (blk_far (blk_far h hne v0) hne v1) hne v2) hne v3) hne v4
theorem StT.far5 {w : World} {g gz : Nat} {a0 a1 a2 a3 : Int} {v : Value} {cs : Array Value} (h : StT w g a0 a1 a2 a3 v) (hz : w.heap[gz]? = some (.cells cs 24 (0, 0))) (v0 v1 v2 v3 v4 : Value) :
    StT (((((w.setCell ⟨gz, 0, none⟩ v0).setCell ⟨gz, 1, none⟩ v1).setCell ⟨gz, 2, none⟩ v2).setCell ⟨gz, 3, none⟩ v3).setCell ⟨gz, 4, none⟩ v4) g a0 a1 a2 a3 v :=
  blk_far5 h (blk_ne h hz (by decide)) v0 v1 v2 v3 v4
theorem R_set5 {w : World} {gz base : Nat} {l : List S71} {v : Value} {c0 c1 c2 c3 c4 : Value} (h : Kd.R k71 71 w base (fun _ => True) v l) (hz : w.heap[gz]? = some (.cells #[c0, c1, c2, c3, c4] 24 (0, 0))) (v0 v1 v2 v3 v4 : Value) :
    Kd.R k71 71 (((((w.setCell ⟨gz, 0, none⟩ v0).setCell ⟨gz, 1, none⟩ v1).setCell ⟨gz, 2, none⟩ v2).setCell ⟨gz, 3, none⟩ v3).setCell ⟨gz, 4, none⟩ v4) base (fun _ => True) v l :=
  Kd.R_set (Kd.R_set (Kd.R_set (Kd.R_set (Kd.R_set h hz (by decide) 0 v0) (blk_put hz 0 v0 rfl) (by decide) 1 v1) (blk_put (blk_put hz 0 v0 rfl) 1 v1 rfl) (by decide) 2 v2) (blk_put (blk_put (blk_put hz 0 v0 rfl) 1 v1 rfl) 2 v2 rfl) (by decide) 3 v3) (blk_put (blk_put (blk_put (blk_put hz 0 v0 rfl) 1 v1 rfl) 2 v2 rfl) 3 v3 rfl) (by decide) 4 v4
theorem Q_set5 {w : World} {gz base : Nat} {l : List S71} {v : Value} {c0 c1 c2 c3 c4 : Value} (h : Kd.Q k71 71 w base (fun _ => True) v l) (hz : w.heap[gz]? = some (.cells #[c0, c1, c2, c3, c4] 24 (0, 0))) (v0 v1 v2 v3 v4 : Value) :
    Kd.Q k71 71 (((((w.setCell ⟨gz, 0, none⟩ v0).setCell ⟨gz, 1, none⟩ v1).setCell ⟨gz, 2, none⟩ v2).setCell ⟨gz, 3, none⟩ v3).setCell ⟨gz, 4, none⟩ v4) base (fun _ => True) v l :=
  Kd.Q_set (Kd.Q_set (Kd.Q_set (Kd.Q_set (Kd.Q_set h hz (by decide) 0 v0) (blk_put hz 0 v0 rfl) (by decide) 1 v1) (blk_put (blk_put hz 0 v0 rfl) 1 v1 rfl) (by decide) 2 v2) (blk_put (blk_put (blk_put hz 0 v0 rfl) 1 v1 rfl) 2 v2 rfl) (by decide) 3 v3) (blk_put (blk_put (blk_put (blk_put hz 0 v0 rfl) 1 v1 rfl) 2 v2 rfl) 3 v3 rfl) (by decide) 4 v4
set_option maxHeartbeats 8000000 in
set_option maxRecDepth 100000 in
theorem write_no (k : Nat) (a0 a1 a2 a3 : Int) (A : Option Addr) (c : Nat) (l : List S71) (now n : Int) (e : Int) (w : World) (hr : Kd.C k71 w A l.length l) (hc : l.length ≤ c) (h : throttle_Check.f k a0 a1 a2 a3 l = some e) (he : e ≠ 0) :
    Calls Try.prog 16 #[.agg #[.int .i64 a0, .int .i64 a1, .int .i64 a2, .int .i64 a3, .slice A l.length c], .int .i64 now, .int .i64 n] w fun e' w' => e' = .returned (.tuple #[.agg #[.int .i64 0, .int .i64 0, .int .i64 0, .int .i64 0, .slice none 0 0], .int .i64 0, .int .i64 e]) ∧ Below w.heap.size w w' := by
  have hu73 := Try.underlying73
  have hu24 := Try.underlying24
  have HR := Aside0.mk hr
  have HC := Aside0.mk hc
  have H := Aside0.mk h
  clear hr hc h
  have hn : (e != 0) = true := bne_iff_ne.2 he
  have HE := Aside0.mk he
  clear he
  go_enter Try.func16, Try.ntmps16
  go_wp2_with fail
  have hW := tri_alloc w #[.int .i64 a0, .int .i64 a1, .int .i64 a2, .int .i64 a3, .slice A l.length c] #[.int .i64 0, .int .i64 0, .int .i64 0, .int .i64 0, .slice none 0 0] #[.int .i64 a0, .int .i64 a1, .int .i64 a2, .int .i64 a3, .slice A l.length c]
  generalize (((w.alloc (.cells #[.int .i64 a0, .int .i64 a1, .int .i64 a2, .int .i64 a3, .slice A l.length c] 24)).alloc (.cells #[.int .i64 0, .int .i64 0, .int .i64 0, .int .i64 0, .slice none 0 0] 24)).alloc (.cells #[.int .i64 a0, .int .i64 a1, .int .i64 a2, .int .i64 a3, .slice A l.length c] 73)) = W at hW ⊢
  have hgz : w.heap.size ≤ w.heap.size + 1 := Nat.le_succ _
  have hgg : w.heap.size ≤ w.heap.size + 1 + 1 := Nat.le_succ_of_le (Nat.le_succ _)
  refine (advance_no k (w.heap.size + 1 + 1) a0 a1 a2 a3 A c l now e w W hW.1 hW.2.2 HR.out HC.out H.out HE.out).mono ?_
  rintro e' w1 ⟨rfl, hb, hk⟩
  have hz := hk _ _ hW.2.1
  have HZ := Aside0.mk hz
  have HB := Aside0.mk hb
  have hchz0 := (blk_cell hz 0).trans rfl
  have hchz1 := (blk_cell hz 1).trans rfl
  have hchz2 := (blk_cell hz 2).trans rfl
  have hchz3 := (blk_cell hz 3).trans rfl
  have hchz4 := (blk_cell hz 4).trans rfl
  have hfhz0 := blk_frozen hz 0
  have hfhz1 := blk_frozen hz 1
  have hfhz2 := blk_frozen hz 2
  have hfhz3 := blk_frozen hz 3
  have hfhz4 := blk_frozen hz 4
  clear hz hk hW hb
  go_wp2
  refine bodyPost_ret (results_ctt rfl _ _ (w.heap.size + 1) 24 #[.int .i64 0, .int .i64 0, .int .i64 0, .int .i64 0, .slice none 0 0] (0, 0) _ rfl (blk_put5 HZ.out) Try.underlying24 rfl (by kernel_rfl)) rfl ?_
  exact ⟨rfl, below_set5 HB.out hgz⟩


set_option maxHeartbeats 8000000 in
set_option maxRecDepth 100000 in
theorem write_late (k : Nat) (a0 a1 a2 a3 : Int) (A : Option Addr) (c : Nat) (l : List S71) (now n : Int) (w : World) (hr : Kd.C k71 w A l.length l) (hc : l.length ≤ c) (h : throttle_Check.f k a0 a1 a2 a3 l = some 0) (hn : throttle_between.f now a2 1073741824 = some false) :
    Calls Try.prog 16 #[.agg #[.int .i64 a0, .int .i64 a1, .int .i64 a2, .int .i64 a3, .slice A l.length c], .int .i64 now, .int .i64 n] w fun e' w' => e' = .returned (.tuple #[.agg #[.int .i64 0, .int .i64 0, .int .i64 0, .int .i64 0, .slice none 0 0], .int .i64 0, .int .i64 24]) ∧ Below w.heap.size w w' := by
  have hu73 := Try.underlying73
  have hu24 := Try.underlying24
  have HR := Aside0.mk hr
  have HC := Aside0.mk hc
  have H := Aside0.mk h
  clear hr hc h
  have HN := Aside0.mk hn
  clear hn
  go_enter Try.func16, Try.ntmps16
  go_wp2_with fail
  have hW := tri_alloc w #[.int .i64 a0, .int .i64 a1, .int .i64 a2, .int .i64 a3, .slice A l.length c] #[.int .i64 0, .int .i64 0, .int .i64 0, .int .i64 0, .slice none 0 0] #[.int .i64 a0, .int .i64 a1, .int .i64 a2, .int .i64 a3, .slice A l.length c]
  generalize (((w.alloc (.cells #[.int .i64 a0, .int .i64 a1, .int .i64 a2, .int .i64 a3, .slice A l.length c] 24)).alloc (.cells #[.int .i64 0, .int .i64 0, .int .i64 0, .int .i64 0, .slice none 0 0] 24)).alloc (.cells #[.int .i64 a0, .int .i64 a1, .int .i64 a2, .int .i64 a3, .slice A l.length c] 73)) = W at hW ⊢
  have hgz : w.heap.size ≤ w.heap.size + 1 := Nat.le_succ _
  have hgg : w.heap.size ≤ w.heap.size + 1 + 1 := Nat.le_succ_of_le (Nat.le_succ _)
  refine (advance_late k (w.heap.size + 1 + 1) a0 a1 a2 a3 A c l now w W hW.1 hW.2.2 HR.out HC.out H.out HN.out).mono ?_
  rintro e' w1 ⟨rfl, hb, hk⟩
  have hz := hk _ _ hW.2.1
  have HZ := Aside0.mk hz
  have HB := Aside0.mk hb
  have hchz0 := (blk_cell hz 0).trans rfl
  have hchz1 := (blk_cell hz 1).trans rfl
  have hchz2 := (blk_cell hz 2).trans rfl
  have hchz3 := (blk_cell hz 3).trans rfl
  have hchz4 := (blk_cell hz 4).trans rfl
  have hfhz0 := blk_frozen hz 0
  have hfhz1 := blk_frozen hz 1
  have hfhz2 := blk_frozen hz 2
  have hfhz3 := blk_frozen hz 3
  have hfhz4 := blk_frozen hz 4
  clear hz hk hW hb
  go_wp2
  refine bodyPost_ret (results_ctt rfl _ _ (w.heap.size + 1) 24 #[.int .i64 0, .int .i64 0, .int .i64 0, .int .i64 0, .slice none 0 0] (0, 0) _ rfl (blk_put5 HZ.out) Try.underlying24 rfl (by kernel_rfl)) rfl ?_
  exact ⟨rfl, below_set5 HB.out hgz⟩


set_option maxHeartbeats 8000000 in
set_option maxRecDepth 100000 in
theorem progress_no (k : Nat) (a0 a1 a2 a3 : Int) (A : Option Addr) (c : Nat) (l : List S71) (now n : Int) (e : Int) (w : World) (hr : Kd.C k71 w A l.length l) (hc : l.length ≤ c) (h : throttle_Check.f k a0 a1 a2 a3 l = some e) (he : e ≠ 0) :
    Calls Try.prog 19 #[.agg #[.int .i64 a0, .int .i64 a1, .int .i64 a2, .int .i64 a3, .slice A l.length c], .int .i64 now, .int .i64 n] w fun e' w' => e' = .returned (.tuple #[.agg #[.int .i64 0, .int .i64 0, .int .i64 0, .int .i64 0, .slice none 0 0], .int .i64 e]) ∧ Below w.heap.size w w' := by
  have hu73 := Try.underlying73
  have hu24 := Try.underlying24
  have HR := Aside0.mk hr
  have HC := Aside0.mk hc
  have H := Aside0.mk h
  clear hr hc h
  have hn : (e != 0) = true := bne_iff_ne.2 he
  have HE := Aside0.mk he
  clear he
  go_enter Try.func19, Try.ntmps19
  go_wp2_with fail
  have hW := tri_alloc w #[.int .i64 a0, .int .i64 a1, .int .i64 a2, .int .i64 a3, .slice A l.length c] #[.int .i64 0, .int .i64 0, .int .i64 0, .int .i64 0, .slice none 0 0] #[.int .i64 a0, .int .i64 a1, .int .i64 a2, .int .i64 a3, .slice A l.length c]
  generalize (((w.alloc (.cells #[.int .i64 a0, .int .i64 a1, .int .i64 a2, .int .i64 a3, .slice A l.length c] 24)).alloc (.cells #[.int .i64 0, .int .i64 0, .int .i64 0, .int .i64 0, .slice none 0 0] 24)).alloc (.cells #[.int .i64 a0, .int .i64 a1, .int .i64 a2, .int .i64 a3, .slice A l.length c] 73)) = W at hW ⊢
  have hgz : w.heap.size ≤ w.heap.size + 1 := Nat.le_succ _
  have hgg : w.heap.size ≤ w.heap.size + 1 + 1 := Nat.le_succ_of_le (Nat.le_succ _)
  refine (advance_no k (w.heap.size + 1 + 1) a0 a1 a2 a3 A c l now e w W hW.1 hW.2.2 HR.out HC.out H.out HE.out).mono ?_
  rintro e' w1 ⟨rfl, hb, hk⟩
  have hz := hk _ _ hW.2.1
  have HZ := Aside0.mk hz
  have HB := Aside0.mk hb
  have hchz0 := (blk_cell hz 0).trans rfl
  have hchz1 := (blk_cell hz 1).trans rfl
  have hchz2 := (blk_cell hz 2).trans rfl
  have hchz3 := (blk_cell hz 3).trans rfl
  have hchz4 := (blk_cell hz 4).trans rfl
  have hfhz0 := blk_frozen hz 0
  have hfhz1 := blk_frozen hz 1
  have hfhz2 := blk_frozen hz 2
  have hfhz3 := blk_frozen hz 3
  have hfhz4 := blk_frozen hz 4
  clear hz hk hW hb
  go_wp2
  refine bodyPost_ret (results_ct rfl _ _ (w.heap.size + 1) 24 #[.int .i64 0, .int .i64 0, .int .i64 0, .int .i64 0, .slice none 0 0] (0, 0) _ rfl (blk_put5 HZ.out) Try.underlying24 rfl (by kernel_rfl)) rfl ?_
  exact ⟨rfl, below_set5 HB.out hgz⟩


set_option maxHeartbeats 8000000 in
set_option maxRecDepth 100000 in
theorem progress_late (k : Nat) (a0 a1 a2 a3 : Int) (A : Option Addr) (c : Nat) (l : List S71) (now n : Int) (w : World) (hr : Kd.C k71 w A l.length l) (hc : l.length ≤ c) (h : throttle_Check.f k a0 a1 a2 a3 l = some 0) (hn : throttle_between.f now a2 1073741824 = some false) :
    Calls Try.prog 19 #[.agg #[.int .i64 a0, .int .i64 a1, .int .i64 a2, .int .i64 a3, .slice A l.length c], .int .i64 now, .int .i64 n] w fun e' w' => e' = .returned (.tuple #[.agg #[.int .i64 0, .int .i64 0, .int .i64 0, .int .i64 0, .slice none 0 0], .int .i64 24]) ∧ Below w.heap.size w w' := by
  have hu73 := Try.underlying73
  have hu24 := Try.underlying24
  have HR := Aside0.mk hr
  have HC := Aside0.mk hc
  have H := Aside0.mk h
  clear hr hc h
  have HN := Aside0.mk hn
  clear hn
  go_enter Try.func19, Try.ntmps19
  go_wp2_with fail
  have hW := tri_alloc w #[.int .i64 a0, .int .i64 a1, .int .i64 a2, .int .i64 a3, .slice A l.length c] #[.int .i64 0, .int .i64 0, .int .i64 0, .int .i64 0, .slice none 0 0] #[.int .i64 a0, .int .i64 a1, .int .i64 a2, .int .i64 a3, .slice A l.length c]
  generalize (((w.alloc (.cells #[.int .i64 a0, .int .i64 a1, .int .i64 a2, .int .i64 a3, .slice A l.length c] 24)).alloc (.cells #[.int .i64 0, .int .i64 0, .int .i64 0, .int .i64 0, .slice none 0 0] 24)).alloc (.cells #[.int .i64 a0, .int .i64 a1, .int .i64 a2, .int .i64 a3, .slice A l.length c] 73)) = W at hW ⊢
  have hgz : w.heap.size ≤ w.heap.size + 1 := Nat.le_succ _
  have hgg : w.heap.size ≤ w.heap.size + 1 + 1 := Nat.le_succ_of_le (Nat.le_succ _)
  refine (advance_late k (w.heap.size + 1 + 1) a0 a1 a2 a3 A c l now w W hW.1 hW.2.2 HR.out HC.out H.out HN.out).mono ?_
  rintro e' w1 ⟨rfl, hb, hk⟩
  have hz := hk _ _ hW.2.1
  have HZ := Aside0.mk hz
  have HB := Aside0.mk hb
  have hchz0 := (blk_cell hz 0).trans rfl
  have hchz1 := (blk_cell hz 1).trans rfl
  have hchz2 := (blk_cell hz 2).trans rfl
  have hchz3 := (blk_cell hz 3).trans rfl
  have hchz4 := (blk_cell hz 4).trans rfl
  have hfhz0 := blk_frozen hz 0
  have hfhz1 := blk_frozen hz 1
  have hfhz2 := blk_frozen hz 2
  have hfhz3 := blk_frozen hz 3
  have hfhz4 := blk_frozen hz 4
  clear hz hk hW hb
  go_wp2
  refine bodyPost_ret (results_ct rfl _ _ (w.heap.size + 1) 24 #[.int .i64 0, .int .i64 0, .int .i64 0, .int .i64 0, .slice none 0 0] (0, 0) _ rfl (blk_put5 HZ.out) Try.underlying24 rfl (by kernel_rfl)) rfl ?_
  exact ⟨rfl, below_set5 HB.out hgz⟩


set_option maxHeartbeats 8000000 in
set_option maxRecDepth 100000 in
theorem write_range (k : Nat) (a0 a1 a2 a3 : Int) (A : Option Addr) (c : Nat) (l : List S71) (now n : Int) (w : World) (hr : Kd.C k71 w A l.length l) (hc : l.length ≤ c) (h : throttle_Check.f k a0 a1 a2 a3 l = some 0) (hn : throttle_between.f now a2 1073741824 = some true) (hcl : api_Mark_44.f l = some l) (h2 : throttle_between.f n 1 4096 = some false) :
    Calls Try.prog 16 #[.agg #[.int .i64 a0, .int .i64 a1, .int .i64 a2, .int .i64 a3, .slice A l.length c], .int .i64 now, .int .i64 n] w fun e' w' => e' = .returned (.tuple #[.agg #[.int .i64 0, .int .i64 0, .int .i64 0, .int .i64 0, .slice none 0 0], .int .i64 0, .int .i64 2]) ∧ Below w.heap.size w w' := by
  have hu73 := Try.underlying73
  have hu24 := Try.underlying24
  have HR := Aside0.mk hr
  have HC := Aside0.mk hc
  have H := Aside0.mk h
  clear hr hc h
  have HN := Aside0.mk hn
  clear hn
  have HCL := Aside0.mk hcl
  clear hcl
  have H2 := Aside0.mk h2
  clear h2
  go_enter Try.func16, Try.ntmps16
  go_wp2_with fail
  have hW := tri_alloc w #[.int .i64 a0, .int .i64 a1, .int .i64 a2, .int .i64 a3, .slice A l.length c] #[.int .i64 0, .int .i64 0, .int .i64 0, .int .i64 0, .slice none 0 0] #[.int .i64 a0, .int .i64 a1, .int .i64 a2, .int .i64 a3, .slice A l.length c]
  generalize (((w.alloc (.cells #[.int .i64 a0, .int .i64 a1, .int .i64 a2, .int .i64 a3, .slice A l.length c] 24)).alloc (.cells #[.int .i64 0, .int .i64 0, .int .i64 0, .int .i64 0, .slice none 0 0] 24)).alloc (.cells #[.int .i64 a0, .int .i64 a1, .int .i64 a2, .int .i64 a3, .slice A l.length c] 73)) = W at hW ⊢
  have hgz : w.heap.size ≤ w.heap.size + 1 := Nat.le_succ _
  have hgg : w.heap.size ≤ w.heap.size + 1 + 1 := Nat.le_succ_of_le (Nat.le_succ _)
  refine (advance_yes k (w.heap.size + 1 + 1) a0 a1 a2 a3 A c l l now w W hW.1 hW.2.2 hgg HR.out HC.out H.out HN.out HCL.out).mono ?_
  rintro e' w1 ⟨v, rfl, hI, hR, hb, hk⟩
  obtain ⟨A1, c1, rfl, hl1, hC⟩ := Kd.R_reads hR
  have HI1 := Aside0.mk hI
  have HR1 := Aside0.mk hR
  have HB1 := Aside0.mk hb
  have HZ1 := Aside0.mk (hk _ _ hW.2.1)
  have HL1 := Aside0.mk hl1
  clear hI hR hC hb hk hW hl1
  go_wp2_with fail
  refine (throttle_between.calls n 1 4096 false w1 H2.out).mono ?_
  rintro e' w2 ⟨rfl, hb⟩
  replace hb := hb.below
  have HB2 := Aside0.mk (below_then HB1.out HB1.out.size hb)
  have HI2 := Aside0.mk (HI1.out.below hb)
  have HR2 := Aside0.mk (Kd.R_below HR1.out hb)
  have HZ2 := Aside0.mk (blk_below HZ1.out hb)
  clear hb HB1 HI1 HR1 HZ1
  have hz := HZ2.out
  have hchz0 := (blk_cell hz 0).trans rfl
  have hchz1 := (blk_cell hz 1).trans rfl
  have hchz2 := (blk_cell hz 2).trans rfl
  have hchz3 := (blk_cell hz 3).trans rfl
  have hchz4 := (blk_cell hz 4).trans rfl
  have hfhz0 := blk_frozen hz 0
  have hfhz1 := blk_frozen hz 1
  have hfhz2 := blk_frozen hz 2
  have hfhz3 := blk_frozen hz 3
  have hfhz4 := blk_frozen hz 4
  clear hz
  go_wp2
  refine bodyPost_ret (results_ctt rfl _ _ (w.heap.size + 1) 24 #[.int .i64 0, .int .i64 0, .int .i64 0, .int .i64 0, .slice none 0 0] (0, 0) _ rfl (blk_put5 HZ2.out) Try.underlying24 rfl (by kernel_rfl)) rfl ?_
  exact ⟨rfl, below_set5 HB2.out hgz⟩


set_option maxHeartbeats 8000000 in
set_option maxRecDepth 100000 in
theorem write_bound (k : Nat) (a0 a1 a2 a3 : Int) (A : Option Addr) (c : Nat) (l : List S71) (now n : Int) (w : World) (hr : Kd.C k71 w A l.length l) (hc : l.length ≤ c) (h : throttle_Check.f k a0 a1 a2 a3 l = some 0) (hn : throttle_between.f now a2 1073741824 = some true) (hcl : api_Mark_44.f l = some l) (h2 : throttle_between.f n 1 4096 = some true) (h3 : n > wrap64 (a1 * a0)) :
    Calls Try.prog 16 #[.agg #[.int .i64 a0, .int .i64 a1, .int .i64 a2, .int .i64 a3, .slice A l.length c], .int .i64 now, .int .i64 n] w fun e' w' => e' = .returned (.tuple #[.agg #[.int .i64 0, .int .i64 0, .int .i64 0, .int .i64 0, .slice none 0 0], .int .i64 0, .int .i64 21]) ∧ Below w.heap.size w w' := by
  have hu73 := Try.underlying73
  have hu24 := Try.underlying24
  have HR := Aside0.mk hr
  have HC := Aside0.mk hc
  have H := Aside0.mk h
  clear hr hc h
  have HN := Aside0.mk hn
  clear hn
  have HCL := Aside0.mk hcl
  clear hcl
  have H2 := Aside0.mk h2
  clear h2
  have hd3 : decide (wrap64 (a1 * a0) < n) = true := decide_eq_true h3
  clear h3
  go_enter Try.func16, Try.ntmps16
  go_wp2_with fail
  have hW := tri_alloc w #[.int .i64 a0, .int .i64 a1, .int .i64 a2, .int .i64 a3, .slice A l.length c] #[.int .i64 0, .int .i64 0, .int .i64 0, .int .i64 0, .slice none 0 0] #[.int .i64 a0, .int .i64 a1, .int .i64 a2, .int .i64 a3, .slice A l.length c]
  generalize (((w.alloc (.cells #[.int .i64 a0, .int .i64 a1, .int .i64 a2, .int .i64 a3, .slice A l.length c] 24)).alloc (.cells #[.int .i64 0, .int .i64 0, .int .i64 0, .int .i64 0, .slice none 0 0] 24)).alloc (.cells #[.int .i64 a0, .int .i64 a1, .int .i64 a2, .int .i64 a3, .slice A l.length c] 73)) = W at hW ⊢
  have hgz : w.heap.size ≤ w.heap.size + 1 := Nat.le_succ _
  have hgg : w.heap.size ≤ w.heap.size + 1 + 1 := Nat.le_succ_of_le (Nat.le_succ _)
  refine (advance_yes k (w.heap.size + 1 + 1) a0 a1 a2 a3 A c l l now w W hW.1 hW.2.2 hgg HR.out HC.out H.out HN.out HCL.out).mono ?_
  rintro e' w1 ⟨v, rfl, hI, hR, hb, hk⟩
  obtain ⟨A1, c1, rfl, hl1, hC⟩ := Kd.R_reads hR
  have HI1 := Aside0.mk hI
  have HR1 := Aside0.mk hR
  have HB1 := Aside0.mk hb
  have HZ1 := Aside0.mk (hk _ _ hW.2.1)
  have HL1 := Aside0.mk hl1
  clear hI hR hC hb hk hW hl1
  go_wp2_with fail
  refine (throttle_between.calls n 1 4096 true w1 H2.out).mono ?_
  rintro e' w2 ⟨rfl, hb⟩
  replace hb := hb.below
  have HB2 := Aside0.mk (below_then HB1.out HB1.out.size hb)
  have HI2 := Aside0.mk (HI1.out.below hb)
  have HR2 := Aside0.mk (Kd.R_below HR1.out hb)
  have HZ2 := Aside0.mk (blk_below HZ1.out hb)
  clear hb HB1 HI1 HR1 HZ1
  obtain ⟨hcg0, hcg1, hcg2, hcg3, hcg4, hfg0, hfg1, hfg2, hfg3, hfg4⟩ := HI2.out.cells
  go_wp2_with fail
  clear hcg0 hcg1 hcg2 hcg3 hcg4 hfg0 hfg1 hfg2 hfg3 hfg4
  refine (throttle_state_bound.calls a0 a1 now a3 A1 c1 l _ w2 (Kd.R_reads' HR2.out).2.2 HL1.out rfl).mono ?_
  rintro e' w3 ⟨rfl, hb⟩
  have HB3 := Aside0.mk (below_then HB2.out HB2.out.size hb)
  have HI3 := Aside0.mk (HI2.out.below hb)
  have HR3 := Aside0.mk (Kd.R_below HR2.out hb)
  have HZ3 := Aside0.mk (blk_below HZ2.out hb)
  clear hb HB2 HI2 HR2 HZ2
  have hz := HZ3.out
  have hchz0 := (blk_cell hz 0).trans rfl
  have hchz1 := (blk_cell hz 1).trans rfl
  have hchz2 := (blk_cell hz 2).trans rfl
  have hchz3 := (blk_cell hz 3).trans rfl
  have hchz4 := (blk_cell hz 4).trans rfl
  have hfhz0 := blk_frozen hz 0
  have hfhz1 := blk_frozen hz 1
  have hfhz2 := blk_frozen hz 2
  have hfhz3 := blk_frozen hz 3
  have hfhz4 := blk_frozen hz 4
  clear hz
  go_wp2
  refine bodyPost_ret (results_ctt rfl _ _ (w.heap.size + 1) 24 #[.int .i64 0, .int .i64 0, .int .i64 0, .int .i64 0, .slice none 0 0] (0, 0) _ rfl (blk_put5 HZ3.out) Try.underlying24 rfl (by kernel_rfl)) rfl ?_
  exact ⟨rfl, below_set5 HB3.out hgz⟩


/-- What admit may come to: an error, or a state with a new backlog and new marks. -/
def AdmOut (w0 w : World) (g : Nat) (a0 a1 a2 b : Int) (L : List S71) (er : Int) (e' : Ending) (w' : World) : Prop :=
  e' = .returned (.int .i64 er) ∧ Below w0.heap.size w0 w' ∧ Kt w w' ∧ (er = 0 → ∃ v, StT w' g a0 a1 a2 b v ∧ Kd.Q k71 71 w' w0.heap.size (fun _ => True) v L)
/-- What Write comes to behind its tests. -/
def OnOut (w : World) (a0 a1 now a3 : Int) (l : List S71) (M b er : Int) (L : List S71) (e' : Ending) (w' : World) : Prop :=
  (M > 0 → ∃ v, e' = .returned (.tuple #[.agg #[.int .i64 a0, .int .i64 a1, .int .i64 now, .int .i64 a3, v], .int .i64 (wrap64 (Int.tdiv (wrap64 (wrap64 (M + a1) - 1)) a1)), .int .i64 0]) ∧ Kd.Q k71 71 w' w.heap.size (fun _ => True) v l ∧ Below w.heap.size w w') ∧
  (¬ M > 0 → (er ≠ 0 → e' = .returned (.tuple #[.agg #[.int .i64 0, .int .i64 0, .int .i64 0, .int .i64 0, .slice none 0 0], .int .i64 0, .int .i64 er]) ∧ Below w.heap.size w w') ∧ (er = 0 → ∃ v, e' = .returned (.tuple #[.agg #[.int .i64 a0, .int .i64 a1, .int .i64 now, .int .i64 b, v], .int .i64 0, .int .i64 0]) ∧ Kd.Q k71 71 w' w.heap.size (fun _ => True) v L ∧ Below w.heap.size w w'))
set_option maxHeartbeats 8000000 in
set_option maxRecDepth 100000 in
theorem write_on (k : Nat) (a0 a1 a2 a3 : Int) (A : Option Addr) (c : Nat) (l : List S71) (now n : Int) (b er : Int) (L : List S71) (w : World) (hadm : ∀ (A1 : Option Addr) (c1 : Nat) (w7 : World), ¬ wrap64 (wrap64 (a3 + n) - wrap64 (a1 * a0)) > 0 → StT w7 (w.heap.size + 1 + 1) a0 a1 now a3 (.slice A1 l.length c1) → Below w.heap.size w w7 → w.heap.size ≤ w.heap.size + 1 + 1 → Kd.R k71 71 w7 w.heap.size (fun _ => True) (.slice A1 l.length c1) l → Calls Try.prog 33 #[.pointer (some ⟨w.heap.size + 1 + 1, 0, none⟩), .int .i64 n] w7 (AdmOut w w7 (w.heap.size + 1 + 1) a0 a1 now b L er)) (hr : Kd.C k71 w A l.length l) (hc : l.length ≤ c) (h : throttle_Check.f k a0 a1 a2 a3 l = some 0) (hn : throttle_between.f now a2 1073741824 = some true) (hcl : api_Mark_44.f l = some l) (h2 : throttle_between.f n 1 4096 = some true) (h3 : ¬ n > wrap64 (a1 * a0)) (h5 : 0 < a1) :
    Calls Try.prog 16 #[.agg #[.int .i64 a0, .int .i64 a1, .int .i64 a2, .int .i64 a3, .slice A l.length c], .int .i64 now, .int .i64 n] w fun e' w' => OnOut w a0 a1 now a3 l (wrap64 (wrap64 (a3 + n) - wrap64 (a1 * a0))) b er L e' w' := by
  have hu73 := Try.underlying73
  have hu24 := Try.underlying24
  have HR := Aside0.mk hr
  have HC := Aside0.mk hc
  have H := Aside0.mk h
  clear hr hc h
  have HN := Aside0.mk hn
  clear hn
  have HCL := Aside0.mk hcl
  clear hcl
  have H2 := Aside0.mk h2
  clear h2
  have hd3 : decide (wrap64 (a1 * a0) < n) = false := decide_eq_false h3
  clear h3
  have hne : (a1 == 0) = false := beq_eq_false_iff_ne.2 (by omega)
  have hne2 : ¬ a1 = 0 := by omega
  have HADM := Aside0.mk hadm
  clear hadm
  go_enter Try.func16, Try.ntmps16
  go_wp2_with fail
  have hW := tri_alloc w #[.int .i64 a0, .int .i64 a1, .int .i64 a2, .int .i64 a3, .slice A l.length c] #[.int .i64 0, .int .i64 0, .int .i64 0, .int .i64 0, .slice none 0 0] #[.int .i64 a0, .int .i64 a1, .int .i64 a2, .int .i64 a3, .slice A l.length c]
  generalize (((w.alloc (.cells #[.int .i64 a0, .int .i64 a1, .int .i64 a2, .int .i64 a3, .slice A l.length c] 24)).alloc (.cells #[.int .i64 0, .int .i64 0, .int .i64 0, .int .i64 0, .slice none 0 0] 24)).alloc (.cells #[.int .i64 a0, .int .i64 a1, .int .i64 a2, .int .i64 a3, .slice A l.length c] 73)) = W at hW ⊢
  have hgz : w.heap.size ≤ w.heap.size + 1 := Nat.le_succ _
  have hgg : w.heap.size ≤ w.heap.size + 1 + 1 := Nat.le_succ_of_le (Nat.le_succ _)
  refine (advance_yes k (w.heap.size + 1 + 1) a0 a1 a2 a3 A c l l now w W hW.1 hW.2.2 hgg HR.out HC.out H.out HN.out HCL.out).mono ?_
  rintro e' w1 ⟨v, rfl, hI, hR, hb, hk⟩
  obtain ⟨A1, c1, rfl, hl1, hC⟩ := Kd.R_reads hR
  have HI1 := Aside0.mk hI
  have HR1 := Aside0.mk hR
  have HB1 := Aside0.mk hb
  have HZ1 := Aside0.mk (hk _ _ hW.2.1)
  have HL1 := Aside0.mk hl1
  clear hI hR hC hb hk hW hl1
  go_wp2_with fail
  refine (throttle_between.calls n 1 4096 true w1 H2.out).mono ?_
  rintro e' w2 ⟨rfl, hb⟩
  replace hb := hb.below
  have HB2 := Aside0.mk (below_then HB1.out HB1.out.size hb)
  have HI2 := Aside0.mk (HI1.out.below hb)
  have HR2 := Aside0.mk (Kd.R_below HR1.out hb)
  have HZ2 := Aside0.mk (blk_below HZ1.out hb)
  clear hb HB1 HI1 HR1 HZ1
  obtain ⟨hcg0, hcg1, hcg2, hcg3, hcg4, hfg0, hfg1, hfg2, hfg3, hfg4⟩ := HI2.out.cells
  go_wp2_with fail
  clear hcg0 hcg1 hcg2 hcg3 hcg4 hfg0 hfg1 hfg2 hfg3 hfg4
  refine (throttle_state_bound.calls a0 a1 now a3 A1 c1 l _ w2 (Kd.R_reads' HR2.out).2.2 HL1.out rfl).mono ?_
  rintro e' w3 ⟨rfl, hb⟩
  have HB3 := Aside0.mk (below_then HB2.out HB2.out.size hb)
  have HI3 := Aside0.mk (HI2.out.below hb)
  have HR3 := Aside0.mk (Kd.R_below HR2.out hb)
  have HZ3 := Aside0.mk (blk_below HZ2.out hb)
  clear hb HB2 HI2 HR2 HZ2
  go_wp2
  refine start_ (n := 9) (S := fun w' => w'.cell? ⟨w.heap.size + 1 + 1, 0, none⟩ = some (.int .i64 a0) ∧ w'.cell? ⟨w.heap.size + 1 + 1, 1, none⟩ = some (.int .i64 a1) ∧ w'.cell? ⟨w.heap.size + 1 + 1, 2, none⟩ = some (.int .i64 now) ∧ w'.cell? ⟨w.heap.size + 1 + 1, 3, none⟩ = some (.int .i64 a3) ∧ w'.cell? ⟨w.heap.size + 1 + 1, 4, none⟩ = some (.slice A1 l.length c1) ∧ Aside0 (StT w' (w.heap.size + 1 + 1) a0 a1 now a3 (.slice A1 l.length c1)) ∧ Aside0 (Kd.R k71 71 w' w.heap.size (fun _ => True) (.slice A1 l.length c1) l) ∧ Aside0 (Below w.heap.size w w') ∧ Aside0 (w'.heap[w.heap.size + 1]? = some (.cells #[.int .i64 0, .int .i64 0, .int .i64 0, .int .i64 0, .slice none 0 0] 24 (0, 0)))) (ds := []) #[false, false, false, false, false, false, false, false, false] (by kernel_rfl) rfl rfl ⟨HI3.out.cells.1, HI3.out.cells.2.1, HI3.out.cells.2.2.1, HI3.out.cells.2.2.2.1, HI3.out.cells.2.2.2.2.1, ⟨HI3.out⟩, ⟨Kd.R_drewN HR3.out 1⟩, ⟨pw_below_drewN HB3.out 1⟩, ⟨HZ3.out⟩⟩ (fun hHeld => ?_)
  refine pure_ (i := 0) (N := some 32) (v := ?_) (a' := ?_) #[true, false, false, false, false, false, false, false, false] rfl rfl (by kernel_rfl) (fun _ _ _ h => h) (Or.inl ⟨by rfl, ?_⟩) ?_ ?_
  rotate_left
  · intro w'
    go_simp
    with_reducible rfl
  rotate_left
  · simp only [Act.put, List.setIfInBounds_toArray, List.set_cons_zero, List.set_cons_succ, i64_w, i32_w]
    rfl
  refine pure_ (i := 1) (N := some 33) (v := ?_) (a' := ?_) #[true, true, false, false, false, false, false, false, false] rfl rfl (by kernel_rfl) (fun _ _ _ h => h) (Or.inl ⟨by rfl, ?_⟩) ?_ ?_
  rotate_left
  · intro w'
    go_simp
    with_reducible rfl
  rotate_left
  · simp only [Act.put, List.setIfInBounds_toArray, List.set_cons_zero, List.set_cons_succ, i64_w, i32_w]
    rfl
  refine pure_ (i := 3) (N := some 35) (v := ?_) (a' := ?_) #[true, true, false, true, false, false, false, false, false] rfl rfl (by kernel_rfl) (fun _ _ _ h => h) (Or.inl ⟨by rfl, ?_⟩) ?_ ?_
  rotate_left
  · intro w'
    go_simp
    with_reducible rfl
  rotate_left
  · simp only [Act.put, List.setIfInBounds_toArray, List.set_cons_zero, List.set_cons_succ, i64_w, i32_w]
    rfl
  refine take_ (i := 2) (N := some 34) (v := ?_) (a' := ?_) #[true, true, true, true, false, false, false, false, false] rfl rfl (by kernel_rfl) (fun _ _ _ h => h) (Or.inl ⟨by rfl, ?_⟩) hHeld ?_ ?_
  rotate_left
  · rintro w' ⟨s0, s1, s2, s3, s4, s5, s6, s7, s8⟩
    go_simp
    with_reducible rfl
  rotate_left
  · simp only [Act.put, List.setIfInBounds_toArray, List.set_cons_zero, List.set_cons_succ, i64_w, i32_w]
    rfl
  refine pure_ (i := 4) (N := some 36) (v := ?_) (a' := ?_) #[true, true, true, true, true, false, false, false, false] rfl rfl (by kernel_rfl) (fun _ _ _ h => h) (Or.inl ⟨by rfl, ?_⟩) ?_ ?_
  rotate_left
  · intro w'
    go_simp
    with_reducible rfl
  rotate_left
  · simp only [Act.put, List.setIfInBounds_toArray, List.set_cons_zero, List.set_cons_succ, i64_w, i32_w]
    rfl
  refine take_ (i := 5) (N := some 37) (v := ?_) (a' := ?_) #[true, true, true, true, true, true, false, false, false] rfl rfl (by kernel_rfl) (fun _ _ _ h => h) (Or.inl ⟨by rfl, ?_⟩) hHeld ?_ ?_
  rotate_left
  · rintro w' ⟨s0, s1, s2, s3, s4, s5, s6, s7, s8⟩
    go_simp
    with_reducible rfl
  rotate_left
  · simp only [Act.put, List.setIfInBounds_toArray, List.set_cons_zero, List.set_cons_succ, i64_w, i32_w]
    rfl
  refine one_ (i := 6) (N := some 38) #[true, true, true, true, true, true, true, false, false] rfl rfl (by kernel_rfl) (by decide) (fun K hK => ?_)
  refine goes_ Try.func32 (by kernel_rfl) rfl #[.agg #[.int .i64 a0, .int .i64 a1, .int .i64 now, .int .i64 a3, .slice A1 l.length c1]] (by rfl) rfl rfl (by simp only [List.map_toArray, List.map_cons, List.map_nil]; rfl) ?_
  with_reducible refine (throttle_state_bound.calls a0 a1 now a3 A1 c1 l _ _ (Kd.R_reads' hHeld.2.2.2.2.2.2.1.out).2.2 HL1.out rfl).mono ?_
  rintro e w4 ⟨rfl, hb⟩
  refine ⟨_, rfl, ?_⟩
  have HS := hHeld; clear hHeld; obtain ⟨-, -, -, -, -, HI5, HR5, HB5, HZ5⟩ := HS
  have HI6 := Aside0.mk (HI5.out.below hb); have HR6 := Aside0.mk (Kd.R_below HR5.out hb); have HB6 := Aside0.mk (below_then HB5.out HB5.out.size hb); have HZ6 := Aside0.mk (blk_below HZ5.out hb)
  clear HI5 HR5 HB5 HZ5 hb
  refine hK.out _ _ ⟨HI6.out.cells.1, HI6.out.cells.2.1, HI6.out.cells.2.2.1, HI6.out.cells.2.2.2.1, HI6.out.cells.2.2.2.2.1, HI6, HR6, HB6, HZ6⟩ (fun hHeld => ?_)
  clear hK K
  refine norm_ (a' := ?_) ?_ ?_
  rotate_left
  · show Act.put _ (some 38) _ = _
    simp only [Act.put, List.setIfInBounds_toArray, List.set_cons_zero, List.set_cons_succ, i64_w, i32_w]
    rfl
  refine pure_ (i := 7) (N := some 39) (v := ?_) (a' := ?_) #[true, true, true, true, true, true, true, true, false] rfl rfl (by kernel_rfl) (fun _ _ _ h => h) (Or.inl ⟨by rfl, ?_⟩) ?_ ?_
  rotate_left
  · intro w'
    go_simp
    with_reducible rfl
  rotate_left
  · simp only [Act.put, List.setIfInBounds_toArray, List.set_cons_zero, List.set_cons_succ, i64_w, i32_w]
    rfl
  refine pure_ (i := 8) (N := some 11) (v := ?_) (a' := ?_) #[true, true, true, true, true, true, true, true, true] rfl rfl (by kernel_rfl) (fun _ _ _ h => h) (Or.inl ⟨by rfl, ?_⟩) ?_ ?_
  rotate_left
  · intro w'
    go_simp
    with_reducible rfl
  rotate_left
  · simp only [Act.put, List.setIfInBounds_toArray, List.set_cons_zero, List.set_cons_succ, i64_w, i32_w]
    rfl
  refine done_ (by kernel_rfl) ?_
  obtain ⟨-, -, -, -, -, HI7, HR7, HB7, HZ7⟩ := hHeld
  by_cases hmm : wrap64 (wrap64 (a3 + n) - wrap64 (a1 * a0)) > 0
  · have hd4 : decide (0 < wrap64 (wrap64 (a3 + n) - wrap64 (a1 * a0))) = true := decide_eq_true hmm
    have HMM := Aside0.mk hmm
    clear hmm
    go_wp2
    have HI8 := HI7; have HR8 := HR7; have HB8 := HB7; have HZ8 := HZ7
    clear HI7 HR7 HB7 HZ7
    refine start_ (n := 15) (S := fun w' => w'.cell? ⟨w.heap.size + 1 + 1, 0, none⟩ = some (.int .i64 a0) ∧ w'.cell? ⟨w.heap.size + 1 + 1, 1, none⟩ = some (.int .i64 a1) ∧ w'.cell? ⟨w.heap.size + 1 + 1, 2, none⟩ = some (.int .i64 now) ∧ w'.cell? ⟨w.heap.size + 1 + 1, 3, none⟩ = some (.int .i64 a3) ∧ w'.cell? ⟨w.heap.size + 1 + 1, 4, none⟩ = some (.slice A1 l.length c1) ∧ Aside0 (StT w' (w.heap.size + 1 + 1) a0 a1 now a3 (.slice A1 l.length c1)) ∧ Aside0 (Kd.R k71 71 w' w.heap.size (fun _ => True) (.slice A1 l.length c1) l) ∧ Aside0 (Below w.heap.size w w')) (ds := []) #[false, false, false, false, false, false, false, false, false, false, false, false, false, false, false] (by kernel_rfl) rfl rfl ⟨HI8.out.cells.1, HI8.out.cells.2.1, HI8.out.cells.2.2.1, HI8.out.cells.2.2.2.1, HI8.out.cells.2.2.2.2.1, ⟨HI8.out⟩, ⟨Kd.R_drewN HR8.out 1⟩, ⟨pw_below_drewN HB8.out 1⟩⟩ (fun hHeld => ?_)
    refine pure_ (i := 0) (N := some 42) (v := ?_) (a' := ?_) #[true, false, false, false, false, false, false, false, false, false, false, false, false, false, false] rfl rfl (by kernel_rfl) (fun _ _ _ h => h) (Or.inl ⟨by rfl, ?_⟩) ?_ ?_
    rotate_left
    · intro w'
      go_simp
      with_reducible rfl
    rotate_left
    · simp only [Act.put, List.setIfInBounds_toArray, List.set_cons_zero, List.set_cons_succ, i64_w, i32_w]
      rfl
    refine pure_ (i := 2) (N := some 44) (v := ?_) (a' := ?_) #[true, false, true, false, false, false, false, false, false, false, false, false, false, false, false] rfl rfl (by kernel_rfl) (fun _ _ _ h => h) (Or.inl ⟨by rfl, ?_⟩) ?_ ?_
    rotate_left
    · intro w'
      go_simp
      with_reducible rfl
    rotate_left
    · simp only [Act.put, List.setIfInBounds_toArray, List.set_cons_zero, List.set_cons_succ, i64_w, i32_w]
      rfl
    refine pure_ (i := 3) (N := some 45) (v := ?_) (a' := ?_) #[true, false, true, true, false, false, false, false, false, false, false, false, false, false, false] rfl rfl (by kernel_rfl) (fun _ _ _ h => h) (Or.inl ⟨by rfl, ?_⟩) ?_ ?_
    rotate_left
    · intro w'
      go_simp
      with_reducible rfl
    rotate_left
    · simp only [Act.put, List.setIfInBounds_toArray, List.set_cons_zero, List.set_cons_succ, i64_w, i32_w]
      rfl
    refine pure_ (i := 4) (N := some 46) (v := ?_) (a' := ?_) #[true, false, true, true, true, false, false, false, false, false, false, false, false, false, false] rfl rfl (by kernel_rfl) (fun _ _ _ h => h) (Or.inl ⟨by rfl, ?_⟩) ?_ ?_
    rotate_left
    · intro w'
      go_simp
      with_reducible rfl
    rotate_left
    · simp only [Act.put, List.setIfInBounds_toArray, List.set_cons_zero, List.set_cons_succ, i64_w, i32_w]
      rfl
    refine pure_ (i := 8) (N := some 50) (v := ?_) (a' := ?_) #[true, false, true, true, true, false, false, false, true, false, false, false, false, false, false] rfl rfl (by kernel_rfl) (fun _ _ _ h => h) (Or.inl ⟨by rfl, ?_⟩) ?_ ?_
    rotate_left
    · intro w'
      go_simp
      with_reducible rfl
    rotate_left
    · simp only [Act.put, List.setIfInBounds_toArray, List.set_cons_zero, List.set_cons_succ, i64_w, i32_w]
      rfl
    refine pure_ (i := 9) (N := some 51) (v := ?_) (a' := ?_) #[true, false, true, true, true, false, false, false, true, true, false, false, false, false, false] rfl rfl (by kernel_rfl) (fun _ _ _ h => h) (Or.inl ⟨by rfl, ?_⟩) ?_ ?_
    rotate_left
    · intro w'
      go_simp
      with_reducible rfl
    rotate_left
    · simp only [Act.put, List.setIfInBounds_toArray, List.set_cons_zero, List.set_cons_succ, i64_w, i32_w]
      rfl
    refine take_ (i := 1) (N := some 43) (v := ?_) (a' := ?_) #[true, true, true, true, true, false, false, false, true, true, false, false, false, false, false] rfl rfl (by kernel_rfl) (fun _ _ _ h => h) (Or.inl ⟨by rfl, ?_⟩) hHeld ?_ ?_
    rotate_left
    · rintro w' ⟨s0, s1, s2, s3, s4, s5, s6, s7⟩
      go_simp
      with_reducible rfl
    rotate_left
    · simp only [Act.put, List.setIfInBounds_toArray, List.set_cons_zero, List.set_cons_succ, i64_w, i32_w]
      rfl
    refine take_ (i := 5) (N := some 47) (v := ?_) (a' := ?_) #[true, true, true, true, true, true, false, false, true, true, false, false, false, false, false] rfl rfl (by kernel_rfl) (fun _ _ _ h => h) (Or.inl ⟨by rfl, ?_⟩) hHeld ?_ ?_
    rotate_left
    · rintro w' ⟨s0, s1, s2, s3, s4, s5, s6, s7⟩
      go_simp
      with_reducible rfl
    rotate_left
    · simp only [Act.put, List.setIfInBounds_toArray, List.set_cons_zero, List.set_cons_succ, i64_w, i32_w]
      rfl
    refine pure_ (i := 6) (N := some 48) (v := ?_) (a' := ?_) #[true, true, true, true, true, true, true, false, true, true, false, false, false, false, false] rfl rfl (by kernel_rfl) (fun _ _ _ h => h) (Or.inl ⟨by rfl, ?_⟩) ?_ ?_
    rotate_left
    · intro w'
      go_simp
      with_reducible rfl
    rotate_left
    · simp only [Act.put, List.setIfInBounds_toArray, List.set_cons_zero, List.set_cons_succ, i64_w, i32_w]
      rfl
    refine pure_ (i := 7) (N := some 49) (v := ?_) (a' := ?_) #[true, true, true, true, true, true, true, true, true, true, false, false, false, false, false] rfl rfl (by kernel_rfl) (fun _ _ _ h => h) (Or.inl ⟨by rfl, ?_⟩) ?_ ?_
    rotate_left
    · intro w'
      go_simp
      with_reducible rfl
    rotate_left
    · simp only [Act.put, List.setIfInBounds_toArray, List.set_cons_zero, List.set_cons_succ, i64_w, i32_w]
      rfl
    refine take_ (i := 10) (N := some 52) (v := ?_) (a' := ?_) #[true, true, true, true, true, true, true, true, true, true, true, false, false, false, false] rfl rfl (by kernel_rfl) (fun _ _ _ h => h) (Or.inl ⟨by rfl, ?_⟩) hHeld ?_ ?_
    rotate_left
    · rintro w' ⟨s0, s1, s2, s3, s4, s5, s6, s7⟩
      go_simp
      with_reducible rfl
    rotate_left
    · simp only [Act.put, List.setIfInBounds_toArray, List.set_cons_zero, List.set_cons_succ, i64_w, i32_w]
      rfl
    refine pure_ (i := 11) (N := some 53) (v := ?_) (a' := ?_) #[true, true, true, true, true, true, true, true, true, true, true, true, false, false, false] rfl rfl (by kernel_rfl) (fun _ _ _ h => h) (Or.inl ⟨by rfl, ?_⟩) ?_ ?_
    rotate_left
    · intro w'
      go_simp
      with_reducible rfl
    rotate_left
    · simp only [Act.put, List.setIfInBounds_toArray, List.set_cons_zero, List.set_cons_succ, i64_w, i32_w]
      rfl
    refine one_ (i := 12) (N := none) #[true, true, true, true, true, true, true, true, true, true, true, true, true, false, false] rfl rfl (by kernel_rfl) (by decide) (fun K hK => ?_)
    have HS := hHeld; clear hHeld; obtain ⟨-, -, -, -, -, HI9, HR9, HB9⟩ := HS
    have hz := HZ8.out
    have hchz0 := (blk_cell hz 0).trans rfl
    have hchz1 := (blk_cell hz 1).trans rfl
    have hchz2 := (blk_cell hz 2).trans rfl
    have hchz3 := (blk_cell hz 3).trans rfl
    have hchz4 := (blk_cell hz 4).trans rfl
    have hfhz0 := blk_frozen hz 0
    have hfhz1 := blk_frozen hz 1
    have hfhz2 := blk_frozen hz 2
    have hfhz3 := blk_frozen hz 3
    have hfhz4 := blk_frozen hz 4
    clear hz
    refine skip_ (w1 := ?_) (by rfl) rfl ?_ ?_
    rotate_left
    · go_simp
      rfl
    have HI10 := Aside0.mk (HI9.out.far5 HZ8.out (.int .i64 a0) (.int .i64 a1) (.int .i64 now) (.int .i64 a3) (.slice A1 l.length c1))
    have HR10 := Aside0.mk (R_set5 HR9.out HZ8.out (.int .i64 a0) (.int .i64 a1) (.int .i64 now) (.int .i64 a3) (.slice A1 l.length c1))
    have HB10 := Aside0.mk (below_set5 (v0 := .int .i64 a0) (v1 := .int .i64 a1) (v2 := .int .i64 now) (v3 := .int .i64 a3) (v4 := .slice A1 l.length c1) HB9.out hgz)
    clear HI9 HR9 HB9
    refine hK.out _ _ ⟨HI10.out.cells.1, HI10.out.cells.2.1, HI10.out.cells.2.2.1, HI10.out.cells.2.2.2.1, HI10.out.cells.2.2.2.2.1, HI10, HR10, HB10⟩ (fun hHeld => ?_)
    clear hK K
    refine pure_ (i := 13) (N := some 7) (v := ?_) (a' := ?_) #[true, true, true, true, true, true, true, true, true, true, true, true, true, true, false] rfl rfl (by kernel_rfl) (fun _ _ _ h => h) (Or.inl ⟨by rfl, ?_⟩) ?_ ?_
    rotate_left
    · intro w'
      go_simp
      with_reducible rfl
    rotate_left
    · simp only [Act.put, List.setIfInBounds_toArray, List.set_cons_zero, List.set_cons_succ, i64_w, i32_w]
      rfl
    refine pure_ (i := 14) (N := some 8) (v := ?_) (a' := ?_) #[true, true, true, true, true, true, true, true, true, true, true, true, true, true, true] rfl rfl (by kernel_rfl) (fun _ _ _ h => h) (Or.inl ⟨by rfl, ?_⟩) ?_ ?_
    rotate_left
    · intro w'
      go_simp
      with_reducible rfl
    rotate_left
    · simp only [Act.put, List.setIfInBounds_toArray, List.set_cons_zero, List.set_cons_succ, i64_w, i32_w]
      rfl
    refine done_ (by kernel_rfl) ?_
    obtain ⟨-, -, -, -, -, -, HR11, HB11⟩ := hHeld
    go_wp2
    refine bodyPost_ret (results_ctt rfl _ _ (w.heap.size + 1) 24 #[.int .i64 a0, .int .i64 a1, .int .i64 now, .int .i64 a3, .slice A1 l.length c1] (0, 0) _ rfl (blk_put5 HZ8.out) Try.underlying24 rfl (by kernel_rfl)) rfl ?_
    unfold OnOut; exact ⟨fun _ => ⟨_, rfl, Kd.Q_of_R HR11.out, HB11.out⟩, fun h => absurd (by first | exact HMM.out | exact Int.not_le.1 HMM.out) h⟩
  · have hd4 : decide (0 < wrap64 (wrap64 (a3 + n) - wrap64 (a1 * a0))) = false := decide_eq_false hmm
    have HMM := Aside0.mk hmm
    clear hmm
    go_wp2_with fail
    refine (HADM.out _ _ _ (by first | exact HMM.out | exact Int.not_lt.2 HMM.out | exact Int.not_lt.1 HMM.out) HI7.out HB7.out hgg HR7.out).mono ?_
    rintro e' w9 ⟨rfl, hb, hk, ho⟩
    have HZ8 := Aside0.mk (hk _ _ HZ7.out)
    have HB8 := Aside0.mk hb
    have HO8 := Aside0.mk ho
    clear hk hb ho HI7 HR7 HB7 HZ7
    have hz := HZ8.out
    have hchz0 := (blk_cell hz 0).trans rfl
    have hchz1 := (blk_cell hz 1).trans rfl
    have hchz2 := (blk_cell hz 2).trans rfl
    have hchz3 := (blk_cell hz 3).trans rfl
    have hchz4 := (blk_cell hz 4).trans rfl
    have hfhz0 := blk_frozen hz 0
    have hfhz1 := blk_frozen hz 1
    have hfhz2 := blk_frozen hz 2
    have hfhz3 := blk_frozen hz 3
    have hfhz4 := blk_frozen hz 4
    clear hz
    by_cases her : er = 0
    · have HE := Aside0.mk her
      obtain ⟨v, hI, hR⟩ := HO8.out her
      obtain ⟨A2, c2, rfl, -⟩ := Kd.Q_slice hR
      have HI8 := Aside0.mk hI
      have HR8 := Aside0.mk hR
      have hn9 : (er != 0) = false := bne_eq_false_iff_eq.2 her
      generalize hLL : L.length = nL at hI HI8 HR8
      clear hI hR her hLL
      obtain ⟨hcg0, hcg1, hcg2, hcg3, hcg4, hfg0, hfg1, hfg2, hfg3, hfg4⟩ := HI8.out.cells
      go_wp2
      refine bodyPost_ret (results_ctt rfl _ _ (w.heap.size + 1) 24 #[.int .i64 a0, .int .i64 a1, .int .i64 now, .int .i64 b, .slice A2 nL c2] (0, 0) _ rfl (blk_put5 HZ8.out) Try.underlying24 rfl (by kernel_rfl)) rfl ?_
      unfold OnOut
      exact ⟨fun h => absurd h (by first | exact HMM.out | exact Int.not_lt.2 HMM.out | exact Int.not_lt.1 HMM.out), fun _ => ⟨fun h => absurd HE.out h, fun _ => ⟨_, rfl, Q_set5 HR8.out HZ8.out _ _ _ _ _, below_set5 HB8.out hgz⟩⟩⟩
    · have HE := Aside0.mk her
      have hn9 : (er != 0) = true := bne_iff_ne.2 her
      clear her
      go_wp2
      refine bodyPost_ret (results_ctt rfl _ _ (w.heap.size + 1) 24 #[.int .i64 0, .int .i64 0, .int .i64 0, .int .i64 0, .slice none 0 0] (0, 0) _ rfl (blk_put5 HZ8.out) Try.underlying24 rfl (by kernel_rfl)) rfl ?_
      unfold OnOut
      exact ⟨fun h => absurd h (by first | exact HMM.out | exact Int.not_lt.2 HMM.out | exact Int.not_lt.1 HMM.out), fun _ => ⟨fun _ => ⟨rfl, below_set5 HB8.out hgz⟩, fun h => absurd h HE.out⟩⟩



def throttle_Write.g (a0_0 : Int) (a0_1 : Int) (a0_2 : Int) (a0_3 : Int) (l0_4 : List (S71)) (a1 : Int) (a2 : Int) : Option (Int × Int × Int × Int × (List (S71)) × Int × Int) :=
  if 4096 < l0_4.length ∨ a0_1 ≤ 0 then none
  else if ¬ (a0_2 ≤ a1 ∧ a1 ≤ 1073741824) then some (0, 0, 0, 0, ([] : List (S71)), 0, 24)
  else if ¬ (1 ≤ a2 ∧ a2 ≤ 4096) then some (0, 0, 0, 0, ([] : List (S71)), 0, 2)
  else if a2 > wrap64 (a0_1 * a0_0) then some (0, 0, 0, 0, ([] : List (S71)), 0, 21)
  else if wrap64 (wrap64 (a0_3 + a2) - wrap64 (a0_1 * a0_0)) > 0 then some (a0_0, a0_1, a1, a0_3, l0_4, wrap64 (Int.tdiv (wrap64 (wrap64 (wrap64 (wrap64 (a0_3 + a2) - wrap64 (a0_1 * a0_0)) + a0_1) - 1)) a0_1), 0)
  else (throttle_state_total.f a0_0 a0_1 a1 a0_3 l0_4).bind fun t =>
    if wrap64 (t + a2) > 1073741824 then some (0, 0, 0, 0, ([] : List (S71)), 0, 11)
    else if 0 < l0_4.length ∧ (rd_T71 l0_4 ((l0_4.length : Int) - 1)).f0 = a1 then some (a0_0, a0_1, a1, wrap64 (a0_3 + a2), l0_4.set (l0_4.length - 1) ⟨(rd_T71 l0_4 ((l0_4.length : Int) - 1)).f0, wrap64 (t + a2)⟩, 0, 0)
    else (throttle_state_confirmed.f a0_0 a0_1 a1 a0_3 l0_4).bind fun cf => (throttle_state_open.f a0_0 a0_1 a1 a0_3 l0_4 cf).bind fun o =>
      if 0 ≤ o ∧ o ≤ l0_4.length then
        if (l0_4.drop o.toNat ++ [(⟨a1, wrap64 (t + a2)⟩ : S71)]).length ≤ 4096 then some (a0_0, a0_1, a1, wrap64 (a0_3 + a2), l0_4.drop o.toNat ++ [(⟨a1, wrap64 (t + a2)⟩ : S71)], 0, 0)
        else some (0, 0, 0, 0, ([] : List (S71)), 0, 11)
      else none
def throttle_Write.f (k : Nat) (a0_0 : Int) (a0_1 : Int) (a0_2 : Int) (a0_3 : Int) (l0_4 : List (S71)) (a1 : Int) (a2 : Int) : Option (Int × Int × Int × Int × (List (S71)) × Int × Int) :=
  (throttle_Check.f k a0_0 a0_1 a0_2 a0_3 l0_4).bind fun e => if e = 0 then throttle_Write.g a0_0 a0_1 a0_2 a0_3 l0_4 a1 a2 else some (0, 0, 0, 0, ([] : List (S71)), 0, e)
theorem throttle_Write.mono : ∀ a0 a1 a2 a3 a4 a5 a6 k, LeO (throttle_Write.f k a0 a1 a2 a3 a4 a5 a6) (throttle_Write.f (k + 1) a0 a1 a2 a3 a4 a5 a6) := by
  intro a0 a1 a2 a3 a4 a5 a6 k
  unfold throttle_Write.f
  exact LeO.bind (throttle_Check.mono _ _ _ _ _ k) (fun _ => LeO.refl _)
theorem between_true {a b c : Int} (h : b ≤ a ∧ a ≤ c) : throttle_between.f a b c = some true := by
  unfold throttle_between.f
  rw [if_pos h.1, decide_eq_true h.2]
theorem between_false {a b c : Int} (h : ¬ (b ≤ a ∧ a ≤ c)) : throttle_between.f a b c = some false := by
  unfold throttle_between.f
  by_cases h1 : a ≥ b
  · rw [if_pos h1, decide_eq_false (fun h2 => h ⟨h1, h2⟩)]
  · rw [if_neg h1]
theorem throttle_Write.calls (k : Nat) (a0_0 : Int) (a0_1 : Int) (a0_2 : Int) (a0_3 : Int) (A0_4 : Option Addr) (c0_4 : Nat) (l0_4 : List (S71)) (a1 : Int) (a2 : Int) (r1 : Int) (r2 : Int) (r3 : Int) (r4 : Int) (r5 : List (S71)) (r6 : Int) (r7 : Int) (w : World) (hr0_4 : Kd.C k71 w A0_4 l0_4.length l0_4) (hc0_4 : l0_4.length ≤ c0_4) (h : throttle_Write.f k a0_0 a0_1 a0_2 a0_3 l0_4 a1 a2 = some (r1, r2, r3, r4, r5, r6, r7)) :
    Calls Try.prog 16 #[.agg #[.int .i64 a0_0, .int .i64 a0_1, .int .i64 a0_2, .int .i64 a0_3, .slice A0_4 l0_4.length c0_4], .int .i64 a1, .int .i64 a2] w fun e w' => ∃ v4_ : Value, e = .returned (.tuple #[.agg #[.int .i64 r1, .int .i64 r2, .int .i64 r3, .int .i64 r4, v4_], .int .i64 r6, .int .i64 r7]) ∧ Kd.Q k71 71 w' w.heap.size (fun _ => True) v4_ r5 ∧ Below w.heap.size w w' := by
  have zero : ∀ {e : Int} {E : Ending} {w' : World}, E = .returned (.tuple #[.agg #[.int .i64 0, .int .i64 0, .int .i64 0, .int .i64 0, .slice none 0 0], .int .i64 0, .int .i64 e]) ∧ Below w.heap.size w w' → ∃ v4_ : Value, E = .returned (.tuple #[.agg #[.int .i64 0, .int .i64 0, .int .i64 0, .int .i64 0, v4_], .int .i64 0, .int .i64 e]) ∧ Kd.Q k71 71 w' w.heap.size (fun _ => True) v4_ ([] : List S71) ∧ Below w.heap.size w w' :=
    fun h => ⟨_, h.1, Kd.Q_nil _ _ _ _ _, h.2⟩
  unfold throttle_Write.f at h
  obtain ⟨e, hk, h⟩ := Option.bind_eq_some_iff.1 h
  by_cases he : e = 0
  · subst he
    rw [if_pos rfl] at h
    unfold throttle_Write.g at h
    by_cases h1 : 4096 < l0_4.length ∨ a0_1 ≤ 0
    · rw [if_pos h1] at h; cases h
    rw [if_neg h1] at h
    have hlen : l0_4.length ≤ 4096 := by omega
    have hcl : api_Mark_44.f l0_4 = some l0_4 := by unfold api_Mark_44.f; rw [if_pos (by omega)]
    by_cases h2 : a0_2 ≤ a1 ∧ a1 ≤ 1073741824
    · rw [if_neg (not_not_intro h2)] at h
      have hn := between_true h2
      by_cases h3 : 1 ≤ a2 ∧ a2 ≤ 4096
      · rw [if_neg (not_not_intro h3)] at h
        have hb := between_true h3
        by_cases h4 : a2 > wrap64 (a0_1 * a0_0)
        · rw [if_pos h4] at h
          simp only [Option.some.injEq, Prod.mk.injEq] at h
          obtain ⟨rfl, rfl, rfl, rfl, rfl, rfl, rfl⟩ := h
          exact (write_bound k a0_0 a0_1 a0_2 a0_3 A0_4 c0_4 l0_4 a1 a2 w hr0_4 hc0_4 hk hn hcl hb h4).mono (fun _ _ => zero)
        rw [if_neg h4] at h
        have HON := fun (b er : Int) (L : List S71) hadm => write_on k a0_0 a0_1 a0_2 a0_3 A0_4 c0_4 l0_4 a1 a2 b er L w hadm hr0_4 hc0_4 hk hn hcl hb h4 (by omega)
        by_cases h5 : wrap64 (wrap64 (a0_3 + a2) - wrap64 (a0_1 * a0_0)) > 0
        · rw [if_pos h5] at h
          simp only [Option.some.injEq, Prod.mk.injEq] at h
          obtain ⟨rfl, rfl, rfl, rfl, rfl, rfl, rfl⟩ := h
          exact (HON 0 0 [] (fun _ _ _ hm => absurd h5 hm)).mono (fun _ _ hh => hh.1 h5)
        rw [if_neg h5] at h
        obtain ⟨t, ht, h⟩ := Option.bind_eq_some_iff.1 h
        by_cases h6 : wrap64 (t + a2) > 1073741824
        · rw [if_pos h6] at h
          simp only [Option.some.injEq, Prod.mk.injEq] at h
          obtain ⟨rfl, rfl, rfl, rfl, rfl, rfl, rfl⟩ := h
          exact (HON 0 11 [] (fun A1 c1 w7 _ hI hB _ hR => (admit_full _ a0_0 a0_1 a1 a0_3 A1 c1 l0_4 a2 t w w7 hI hB hR ht h6).mono (fun _ _ hh => ⟨hh.1, hh.2.1, hh.2.2, fun he => absurd he (by decide)⟩))).mono (fun _ _ hh => zero ((hh.2 h5).1 (by decide)))
        rw [if_neg h6] at h
        by_cases h7 : 0 < l0_4.length ∧ (rd_T71 l0_4 ((l0_4.length : Int) - 1)).f0 = a1
        · rw [if_pos h7] at h
          simp only [Option.some.injEq, Prod.mk.injEq] at h
          obtain ⟨rfl, rfl, rfl, rfl, rfl, rfl, rfl⟩ := h
          exact (HON _ 0 _ (fun A1 c1 w7 _ hI hB hg hR => (admit_merge _ a0_0 a0_1 a1 a0_3 A1 c1 l0_4 a2 t w w7 hI hB hg hR ht h6 h7.1 hlen h7.2).mono (fun _ _ hh => ⟨hh.1, hh.2.2.2.1, hh.2.2.2.2, fun _ => ⟨_, hh.2.1, Kd.Q_of_R hh.2.2.1⟩⟩))).mono (fun _ _ hh => (hh.2 h5).2 rfl)
        rw [if_neg h7] at h
        obtain ⟨cf, hcf, h⟩ := Option.bind_eq_some_iff.1 h
        obtain ⟨o, ho, h⟩ := Option.bind_eq_some_iff.1 h
        by_cases h8 : 0 ≤ o ∧ o ≤ l0_4.length
        · rw [if_pos h8] at h
          have hlast : l0_4.length = 0 ∨ 0 < l0_4.length ∧ (rd_T71 l0_4 ((l0_4.length : Int) - 1)).f0 ≠ a1 := by
            by_cases h9 : 0 < l0_4.length
            · exact .inr ⟨h9, fun h10 => h7 ⟨h9, h10⟩⟩
            · exact .inl (by omega)
          by_cases h9 : (l0_4.drop o.toNat ++ [(⟨a1, wrap64 (t + a2)⟩ : S71)]).length ≤ 4096
          · rw [if_pos h9] at h
            simp only [Option.some.injEq, Prod.mk.injEq] at h
            obtain ⟨rfl, rfl, rfl, rfl, rfl, rfl, rfl⟩ := h
            refine (HON _ 0 _ (fun A1 c1 w7 _ hI hB hg hR => (admit_app _ a0_0 a0_1 a1 a0_3 A1 c1 l0_4 a2 t cf o w w7 hI hB hg hR ht h6 hlen hlast hcf ho h8.1 h8.2).mono (fun _ _ hh => ?_))).mono (fun _ _ hh => (hh.2 h5).2 rfl)
            unfold IfLe at hh
            rw [if_pos h9] at hh
            obtain ⟨v, he, hi, hq, hb, hk⟩ := hh
            exact ⟨he, hb, hk, fun _ => ⟨v, hi, hq⟩⟩
          · rw [if_neg h9] at h
            simp only [Option.some.injEq, Prod.mk.injEq] at h
            obtain ⟨rfl, rfl, rfl, rfl, rfl, rfl, rfl⟩ := h
            refine (HON 0 11 [] (fun A1 c1 w7 _ hI hB hg hR => (admit_app _ a0_0 a0_1 a1 a0_3 A1 c1 l0_4 a2 t cf o w w7 hI hB hg hR ht h6 hlen hlast hcf ho h8.1 h8.2).mono (fun _ _ hh => ?_))).mono (fun _ _ hh => zero ((hh.2 h5).1 (by decide)))
            unfold IfLe at hh
            rw [if_neg h9] at hh
            exact ⟨hh.1, hh.2.1, hh.2.2, fun he => absurd he (by decide)⟩
        · rw [if_neg h8] at h; cases h
      · rw [if_pos h3] at h
        simp only [Option.some.injEq, Prod.mk.injEq] at h
        obtain ⟨rfl, rfl, rfl, rfl, rfl, rfl, rfl⟩ := h
        exact (write_range k a0_0 a0_1 a0_2 a0_3 A0_4 c0_4 l0_4 a1 a2 w hr0_4 hc0_4 hk hn hcl (between_false h3)).mono (fun _ _ => zero)
    · rw [if_pos h2] at h
      simp only [Option.some.injEq, Prod.mk.injEq] at h
      obtain ⟨rfl, rfl, rfl, rfl, rfl, rfl, rfl⟩ := h
      exact (write_late k a0_0 a0_1 a0_2 a0_3 A0_4 c0_4 l0_4 a1 a2 w hr0_4 hc0_4 hk (between_false h2)).mono (fun _ _ => zero)
  · rw [if_neg he] at h
    simp only [Option.some.injEq, Prod.mk.injEq] at h
    obtain ⟨rfl, rfl, rfl, rfl, rfl, rfl, rfl⟩ := h
    exact (write_no k a0_0 a0_1 a0_2 a0_3 A0_4 c0_4 l0_4 a1 a2 e w hr0_4 hc0_4 hk he).mono (fun _ _ => zero)

end Go.Proofs.Ytppniempndnghaa.PA
