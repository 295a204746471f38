-- Written by a program of this session (wip/tools) over the kit's print.
import Derived.Test.YtppniempndnghaaPAx0
import Derived.Test.YtppniempndnghaaPAx2
import Derived.Test.YtppniempndnghaaPAx5
import Derived.Test.YtppniempndnghaaPAx6
namespace Go.Proofs.Ytppniempndnghaa.PA
open Go.RowKit Go.Proofs.YtppniempndnghaaW.PrintWords Go.Proofs.YtppniempndnghaaW.PrintLast Go.Proofs.YtppniempndnghaaW.PrintMore
attribute [local go_sem] max2_int min2_int max_two min_two max_three min_three max_four min_four   -- for this text's walks alone
set_option linter.unusedVariables false
set_option linter.unusedSimpArgs false

-- @OURS@
/-! ### throttle_state_advance: function 31 -/
/-- A throttle's state as it lies in block g. -/
def StT (W : World) (g : Nat) (a0 a1 a2 a3 : Int) (v : Value) : Prop := W.heap[g]? = some (.cells #[.int .i64 a0, .int .i64 a1, .int .i64 a2, .int .i64 a3, v] 73 (0, 0))
theorem StT.cells {W : World} {g : Nat} {a0 a1 a2 a3 : Int} {v : Value} (h : StT W g a0 a1 a2 a3 v) :
    W.cell? ⟨g, 0, none⟩ = some (.int .i64 a0) ∧ W.cell? ⟨g, 1, none⟩ = some (.int .i64 a1) ∧ W.cell? ⟨g, 2, none⟩ = some (.int .i64 a2) ∧ W.cell? ⟨g, 3, none⟩ = some (.int .i64 a3) ∧ W.cell? ⟨g, 4, none⟩ = some v ∧
    W.frozen? ⟨g, 0, none⟩ = false ∧ W.frozen? ⟨g, 1, none⟩ = false ∧ W.frozen? ⟨g, 2, none⟩ = false ∧ W.frozen? ⟨g, 3, none⟩ = false ∧ W.frozen? ⟨g, 4, none⟩ = false :=
  ⟨(blk_cell h 0).trans rfl, (blk_cell h 1).trans rfl, (blk_cell h 2).trans rfl, (blk_cell h 3).trans rfl, (blk_cell h 4).trans rfl, blk_frozen h 0, blk_frozen h 1, blk_frozen h 2, blk_frozen h 3, blk_frozen h 4⟩
theorem StT.below {W W1 : World} {g : Nat} {a0 a1 a2 a3 : Int} {v : Value} (h : StT W g a0 a1 a2 a3 v) (hb : Below W.heap.size W W1) : StT W1 g a0 a1 a2 a3 v := blk_below h hb

/-- All blocks of type 24 are as they were. -/
def Kt (w w' : World) : Prop := ∀ (k : Nat) (cs : Array Value), w.heap[k]? = some (Obj.cells cs 24 (0, 0)) → w'.heap[k]? = some (Obj.cells cs 24 (0, 0))
theorem Kt.refl (w : World) : Kt w w := fun _ _ h => h
theorem Kt.trans {w w1 w2 : World} (h : Kt w w1) (k : Kt w1 w2) : Kt w w2 := fun _ _ hb => k _ _ (h _ _ hb)
theorem Kt.below {w w1 w2 : World} (h : Kt w w1) (k : Below w1.heap.size w1 w2) : Kt w w2 := fun _ _ hb => blk_below (h _ _ hb) k
theorem Kt.set {w w1 : World} {g : Nat} {cs : Array Value} {t : TypeId} (h : Kt w w1) (hg : w1.heap[g]? = some (.cells cs t (0, 0))) (ht : t ≠ 24) (j : Nat) (v : Value) : Kt w (w1.setCell ⟨g, j, none⟩ v) :=
  fun k c hb => blk_far (h _ _ hb) (blk_ne (h _ _ hb) hg (fun e => ht e.symm)) v
theorem Kt.grown {w w1 w2 : World} {row : Option Nat} (h : Kt w w1) (hg : w1.grownBy w2 row) (ht : ∀ (k : Nat) (cs : Array Value), w1.heap[k]? = some (Obj.cells cs 24 (0, 0)) → some k ≠ row) : Kt w w2 :=
  fun k c hb => blk_grown (h _ _ hb) hg (ht _ _ (h _ _ hb))

set_option maxHeartbeats 4000000 in
set_option maxRecDepth 100000 in
theorem advance_no (k g : Nat) (a0 a1 a2 a3 : Int) (A : Option Addr) (c : Nat) (l : List S71) (now e : Int) (w0 w : World) (hI : StT w g a0 a1 a2 a3 (.slice A l.length c)) (hB : Below w0.heap.size w0 w) (hr : Kd.C k71 w0 A l.length l) (hc : l.length ≤ c)
    (h : throttle_Check.f k a0 a1 a2 a3 l = some e) (he : e ≠ 0) :
    Calls Try.prog 31 #[.pointer (some ⟨g, 0, none⟩), .int .i64 now] w fun e' w' => e' = .returned (.int .i64 e) ∧ Below w0.heap.size w0 w' ∧ Kt w w' := by
  have hu73 := Try.underlying73
  have hu24 := Try.underlying24
  obtain ⟨hc0, hc1, hc2, hc3, hc4, -, -, -, -, -⟩ := hI.cells
  have HI := Aside0.mk hI
  have HB := Aside0.mk hB
  have HR := Aside0.mk (Kd.C_below hr hB)
  have HC := Aside0.mk hc
  have H := Aside0.mk h
  have hn : (e != 0) = true := bne_iff_ne.2 he
  clear hI hB hr hc h he
  go_enter Try.func31, Try.ntmps31
  go_wp2_with fail
  refine (throttle_Check.calls k a0 a1 a2 a3 A c l e w HR.out HC.out H.out).mono ?_
  rintro e' w1 ⟨rfl, hb⟩
  go_wp2
  go_ret
  exact ⟨rfl, below_then HB.out HB.out.size hb, (Kt.refl w).below hb⟩

set_option maxHeartbeats 4000000 in
set_option maxRecDepth 100000 in
theorem advance_late (k g : Nat) (a0 a1 a2 a3 : Int) (A : Option Addr) (c : Nat) (l : List S71) (now : Int) (w0 w : World) (hI : StT w g a0 a1 a2 a3 (.slice A l.length c)) (hB : Below w0.heap.size w0 w) (hr : Kd.C k71 w0 A l.length l) (hc : l.length ≤ c)
    (h : throttle_Check.f k a0 a1 a2 a3 l = some 0) (hn : throttle_between.f now a2 1073741824 = some false) :
    Calls Try.prog 31 #[.pointer (some ⟨g, 0, none⟩), .int .i64 now] w fun e' w' => e' = .returned (.int .i64 24) ∧ Below w0.heap.size w0 w' ∧ Kt w w' := by
  have hu73 := Try.underlying73
  have hu24 := Try.underlying24
  obtain ⟨hc0, hc1, hc2, hc3, hc4, -, -, -, -, -⟩ := hI.cells
  have HI := Aside0.mk hI
  have HB := Aside0.mk hB
  have HR := Aside0.mk (Kd.C_below hr hB)
  have HC := Aside0.mk hc
  have H := Aside0.mk h
  have HN := Aside0.mk hn
  clear hI hB hr hc h hn
  go_enter Try.func31, Try.ntmps31
  go_wp2_with fail
  refine (throttle_Check.calls k a0 a1 a2 a3 A c l 0 w HR.out HC.out H.out).mono ?_
  rintro e' w1 ⟨rfl, hb⟩
  obtain ⟨hd0, hd1, hd2, hd3, hd4, hf0, hf1, hf2, hf3, hf4⟩ := (HI.out.below hb).cells
  clear hc0 hc1 hc2 hc3 hc4
  have HB1 := Aside0.mk (below_then HB.out HB.out.size hb)
  have HK1 := Aside0.mk ((Kt.refl w).below hb)
  clear hb HB
  go_wp2_with fail
  refine (throttle_between.calls now a2 1073741824 false w1 HN.out).mono ?_
  rintro e' w2 ⟨rfl, hd⟩
  have HB2 := Aside0.mk (below_then HB1.out HB1.out.size hd.below)
  have HK2 := Aside0.mk (HK1.out.below hd.below)
  clear hd
  go_wp2
  go_ret
  exact ⟨rfl, HB2.out, HK2.out⟩

set_option maxHeartbeats 4000000 in
set_option maxRecDepth 100000 in
theorem advance_yes (k g : Nat) (a0 a1 a2 a3 : Int) (A : Option Addr) (c : Nat) (l l' : List S71) (now : Int) (w0 w : World) (hI : StT w g a0 a1 a2 a3 (.slice A l.length c)) (hB : Below w0.heap.size w0 w) (hg : w0.heap.size ≤ g) (hr : Kd.C k71 w0 A l.length l) (hc : l.length ≤ c)
    (h : throttle_Check.f k a0 a1 a2 a3 l = some 0) (hn : throttle_between.f now a2 1073741824 = some true) (hl : api_Mark_44.f l = some l') :
    Calls Try.prog 31 #[.pointer (some ⟨g, 0, none⟩), .int .i64 now] w fun e' w' => ∃ v, e' = .returned (.int .i64 0) ∧ StT w' g a0 a1 now a3 v ∧ Kd.R k71 71 w' w0.heap.size (fun _ => True) v l' ∧ Below w0.heap.size w0 w' ∧ Kt w w' := by
  have hu73 := Try.underlying73
  have hu24 := Try.underlying24
  obtain ⟨hc0, hc1, hc2, hc3, hc4, -, -, -, -, -⟩ := hI.cells
  have HI := Aside0.mk hI
  have HB := Aside0.mk hB
  have HR0 := Aside0.mk hr
  have HR := Aside0.mk (Kd.C_below hr hB)
  have HC := Aside0.mk hc
  have H := Aside0.mk h
  have HN := Aside0.mk hn
  have HL := Aside0.mk hl
  have HG := Aside0.mk hg
  clear hI hB hr hc h hn hl hg
  go_enter Try.func31, Try.ntmps31
  go_wp2_with fail
  refine (throttle_Check.calls k a0 a1 a2 a3 A c l 0 w HR.out HC.out H.out).mono ?_
  rintro e' w1 ⟨rfl, hb⟩
  obtain ⟨hd0, hd1, hd2, hd3, hd4, hf0, hf1, hf2, hf3, hf4⟩ := (HI.out.below hb).cells
  clear hc0 hc1 hc2 hc3 hc4
  have HB1 := Aside0.mk (below_then HB.out HB.out.size hb)
  have HK1 := Aside0.mk ((Kt.refl w).below hb)
  have HI1 := Aside0.mk (HI.out.below hb)
  clear hb HB HI
  go_wp2_with fail
  refine (throttle_between.calls now a2 1073741824 true w1 HN.out).mono ?_
  rintro e' w2 ⟨rfl, hd⟩
  have HB2 := Aside0.mk (below_then HB1.out HB1.out.size hd.below)
  have HK2 := Aside0.mk (HK1.out.below hd.below)
  obtain ⟨hg0, hg1, hg2, hg3, hg4, hh0, hh1, hh2, hh3, hh4⟩ := (HI1.out.below hd.below).cells
  have HI2 := Aside0.mk (HI1.out.below hd.below)
  clear hd HB1 HI1 hd0 hd1 hd2 hd3 hd4 hf0 hf1 hf2 hf3 hf4
  go_wp2_with fail
  have HI3 := Aside0.mk (show StT (w2.setCell ⟨g, 2, none⟩ (.int .i64 now)) g a0 a1 now a3 (.slice A l.length c) from blk_put HI2.out 2 (.int .i64 now) rfl)
  have HB3 := Aside0.mk (below_set (j := 2) (v := .int .i64 now) HB2.out HG.out)
  have HK3 := Aside0.mk (HK2.out.set HI2.out (by decide) 2 (.int .i64 now))
  generalize w2.setCell ⟨g, 2, none⟩ (.int .i64 now) = w3 at HI3 HB3 HK3 ⊢
  clear HI2 HB2 hg0 hg1 hg2 hg3 hg4 hh0 hh1 hh2 hh3 hh4
  refine (api_Mark_44.calls A c l l' w3 (Kd.C_below HR0.out HB3.out) HC.out HL.out).mono ?_
  rintro e' w4 ⟨v, rfl, hR, hb⟩
  obtain ⟨A', c', rfl⟩ := Kd.R_slice hR
  have HI4 := Aside0.mk (HI3.out.below hb)
  have HB4 := Aside0.mk (below_then HB3.out HB3.out.size hb)
  have hlt := Aside0.mk (blk_lt HI3.out)
  have HK4 := Aside0.mk (HK3.out.below hb)
  obtain ⟨hd0, hd1, hd2, hd3, hd4, hf0, hf1, hf2, hf3, hf4⟩ := HI4.out.cells
  have HR4 := Aside0.mk hR
  have HB43 := Aside0.mk HB3.out.size
  clear hb hR HI3 HB3
  go_wp2
  go_ret
  refine ⟨_, rfl, blk_put HI4.out 4 _ rfl, ?_, below_set HB4.out HG.out, HK4.out.set HI4.out (by decide) 4 _⟩
  have h1 : Kd.R k71 71 w4 w0.heap.size (fun k => True ∧ k ≠ g) _ l' := Kd.R_lower (Kd.R_types HR4.out HI4.out (by decide)) HB43.out
  exact Kd.R_mono (Kd.R_far (p := ⟨g, 4, none⟩) h1 (fun _ hk => hk.2) _) (fun _ _ => trivial)

end Go.Proofs.Ytppniempndnghaa.PA
