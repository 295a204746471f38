-- Written by a program of this session (wip/tools) over the kit's print.
import Derived.Test.YtedoloapddmanaaPBx0
import Derived.Test.YtedoloapddmanaaSh
import Derived.Test.YtedoloapddmanaaPBx4
namespace Go.Proofs.Ytedoloapddmanaa.PB
open Go.RowKit Go.Proofs.YtedoloapddmanaaW.PrintWords Go.Proofs.YtedoloapddmanaaW.PrintLast Go.Proofs.YtedoloapddmanaaW.PrintMore
attribute [local go_sem] max2_int min2_int max_two min_two max_three min_three max_four min_four   -- for this text's walks alone
set_option linter.unusedVariables false
set_option linter.unusedSimpArgs false
def Kq (T : Nat → Prop) (w w' : World) : Prop := ∀ (k : Nat) (cs : Array Value) (t : TypeId), T t → w.heap[k]? = some (Obj.cells cs t (0, 0)) → w'.heap[k]? = some (Obj.cells cs t (0, 0))
theorem Kq.refl (T : Nat → Prop) (w : World) : Kq T w w := fun _ _ _ _ h => h
theorem Kq.trans {T : Nat → Prop} {w w1 w2 : World} (h : Kq T w w1) (k : Kq T w1 w2) : Kq T w w2 := fun _ _ _ ht hb => k _ _ _ ht (h _ _ _ ht hb)
theorem Kq.mono {T T' : Nat → Prop} {w w1 : World} (h : Kq T w w1) (hT : ∀ t, T' t → T t) : Kq T' w w1 := fun _ _ _ ht hb => h _ _ _ (hT _ ht) hb
theorem Kq.below {T : Nat → Prop} {w w1 w2 : World} (h : Kq T w w1) (k : Below w1.heap.size w1 w2) : Kq T w w2 := fun _ _ _ ht hb => blk_below (h _ _ _ ht hb) k
theorem Kq.set {T : Nat → Prop} {w w1 : World} {g : Nat} {cs : Array Value} {t : TypeId} (h : Kq T w w1) (hg : w1.heap[g]? = some (.cells cs t (0, 0))) (ht : ¬ T t) (j : Nat) (v : Value) : Kq T w (w1.setCell ⟨g, j, none⟩ v) :=
  fun k c t' hT hb => blk_far (h _ _ _ hT hb) (blk_ne (h _ _ _ hT hb) hg (fun e => ht (by rw [← e]; exact hT))) v
theorem Kq.grown {T : Nat → Prop} {w w1 w2 : World} {row : Option Nat} (h : Kq T w w1) (hg : w1.grownBy w2 row) (ht : ∀ (k : Nat) (cs : Array Value) (t : TypeId), T t → w1.heap[k]? = some (Obj.cells cs t (0, 0)) → some k ≠ row) : Kq T w w2 :=
  fun k c t hT hb => blk_grown (h _ _ _ hT hb) hg (ht _ _ _ hT (h _ _ _ hT hb))
theorem R_kq {α : Type} {d : Kd α} {e base : Nat} {ok : Nat → Prop} {w w1 : World} {v : Value} {xs : List α} {T : Nat → Prop} (h : Kd.R d e w base ok v xs) (hk : Kq T w w1) (hT : ∀ q, q ∈ e :: d.E → T q) : Kd.R d e w1 base ok v xs :=
  Kd.R_mono (Kd.R_move (Kd.R_bound h) (fun k hh => by
    obtain ⟨-, -, -, q, hq, cells, hc⟩ := hh
    rw [hc]; exact hk _ _ _ (hT q hq) hc)) (fun _ hh => hh.1)
theorem Q_kq {α : Type} {d : Kd α} {e base : Nat} {ok : Nat → Prop} {w w1 : World} {v : Value} {xs : List α} {T : Nat → Prop} (h : Kd.Q d e w base ok v xs) (hk : Kq T w w1) (hT : ∀ q, q ∈ e :: d.E → T q) : Kd.Q d e w1 base ok v xs :=
  Kd.Q_mono (Kd.Q_move (Kd.Q_bound h) (fun k hh => by
    obtain ⟨-, -, -, q, hq, cells, hc⟩ := hh
    rw [hc]; exact hk _ _ _ (hT q hq) hc)) (fun _ hh => hh.1)
def StC (W : World) (g : Nat) (e s : Int) (v : Value) (st ap : Int) (u : Value) : Prop := W.heap[g]? = some (.cells #[.int .i64 e, .int .i64 s, v, .int .i64 st, .int .i64 ap, u] 79 (0, 0))
theorem StC.cells {W : World} {g : Nat} {e s st ap : Int} {v u : Value} (h : StC W g e s v st ap u) :
    W.cell? ⟨g, 0, none⟩ = some (.int .i64 e) ∧ W.cell? ⟨g, 1, none⟩ = some (.int .i64 s) ∧ W.cell? ⟨g, 2, none⟩ = some v ∧ W.cell? ⟨g, 3, none⟩ = some (.int .i64 st) ∧ W.cell? ⟨g, 4, none⟩ = some (.int .i64 ap) ∧ W.cell? ⟨g, 5, none⟩ = some u ∧
    W.frozen? ⟨g, 0, none⟩ = false ∧ W.frozen? ⟨g, 1, none⟩ = false ∧ W.frozen? ⟨g, 2, none⟩ = false ∧ W.frozen? ⟨g, 3, none⟩ = false ∧ W.frozen? ⟨g, 4, none⟩ = false ∧ W.frozen? ⟨g, 5, none⟩ = false :=
  ⟨(blk_cell h 0).trans rfl, (blk_cell h 1).trans rfl, (blk_cell h 2).trans rfl, (blk_cell h 3).trans rfl, (blk_cell h 4).trans rfl, (blk_cell h 5).trans rfl, blk_frozen h 0, blk_frozen h 1, blk_frozen h 2, blk_frozen h 3, blk_frozen h 4, blk_frozen h 5⟩
theorem StC.below {W W1 : World} {g : Nat} {e s st ap : Int} {v u : Value} (h : StC W g e s v st ap u) (hb : Below W.heap.size W W1) : StC W1 g e s v st ap u := blk_below h hb
set_option maxHeartbeats 4000000 in
set_option maxRecDepth 100000 in
theorem commit_begin_calls (e s st ap : Int) (A : Option Addr) (c : Nat) (l : List Int) (w : World) (hr : Kd.C (Kd.int .i64) w A l.length l) (hc : l.length ≤ c) (hl : l.length ≤ 1000000) :
    Calls Try.prog 46 #[.agg #[.int .i64 e, .int .i64 s, .slice A l.length c, .int .i64 st, .int .i64 ap]] w fun e' w' => ∃ (g : Nat) (v : Value), e' = .returned (.pointer (some ⟨g, 0, none⟩)) ∧ StC w' g e s v st ap (.slice none 0 0) ∧ Kd.R (Kd.int .i64) 3 w' w.heap.size (fun _ => True) v l ∧ w.heap.size ≤ g ∧ Below w.heap.size w w' := by
  have hu79 := Try.underlying79
  have hu24 := Try.underlying24
  have HR := Aside0.mk hr
  have HC := Aside0.mk hc
  have HL := Aside0.mk hl
  clear hr hc hl
  have hb0 : Below w.heap.size w (w.alloc (.cells #[.int .i64 e, .int .i64 s, .slice A l.length c, .int .i64 st, .int .i64 ap] 24)) := (Below.refl _ _).alloc (Nat.le_refl _) _
  have hk0 : (w.alloc (.cells #[.int .i64 e, .int .i64 s, .slice A l.length c, .int .i64 st, .int .i64 ap] 24)).heap[w.heap.size]? = some (.cells #[.int .i64 e, .int .i64 s, .slice A l.length c, .int .i64 st, .int .i64 ap] 24 (0, 0)) := blk_new w _
  have HB0 := Aside0.mk hb0
  have HK0 := Aside0.mk hk0
  clear hb0 hk0
  go_enter Try.func46, Try.ntmps46
  go_wp2_with fail
  generalize w.alloc (.cells #[.int .i64 e, .int .i64 s, .slice A l.length c, .int .i64 st, .int .i64 ap] 24) = w1 at HB0 HK0 ⊢
  refine (slices_Clone_int_int.calls A c l l w1 (Kd.C_below HR.out HB0.out) HC.out (by unfold slices_Clone_int_int.f; rw [if_pos (by have := HL.out; omega)])).mono ?_
  rintro e' w2 ⟨v, rfl, hR, hb⟩
  obtain ⟨A', c', rfl⟩ := Kd.R_slice hR
  have hk2 := blk_below HK0.out hb
  have HK2 := Aside0.mk hk2
  have HB2 := Aside0.mk (below_then HB0.out HB0.out.size hb)
  have HR2 := Aside0.mk (Kd.R_lower hR HB0.out.size)
  have hc0 := (blk_cell hk2 0).trans rfl
  have hc1 := (blk_cell hk2 1).trans rfl
  have hc2 := (blk_cell hk2 2).trans rfl
  have hc3 := (blk_cell hk2 3).trans rfl
  have hc4 := (blk_cell hk2 4).trans rfl
  have hf2 := blk_frozen hk2 2
  clear hk2 hb hR
  go_wp2
  go_ret
  refine ⟨_, .slice A' l.length c', rfl, ?_, Kd.R_alloc (Kd.R_set HR2.out HK2.out (by decide) 2 _) _, HB2.out.size, below_alloc (below_set HB2.out (Nat.le_refl _)) _⟩
  have h := blk_new (w2.setCell ⟨w.heap.size, 2, none⟩ (.slice A' l.length c')) (.cells #[.int .i64 e, .int .i64 s, .slice A' l.length c', .int .i64 st, .int .i64 ap, .slice none 0 0] 79)
  simpa [StC] using h
theorem two_alloc (w : World) (t z : Array Value) : ((w.alloc (.cells t 24)).alloc (.cells z 24)).heap[w.heap.size]? = some (.cells t 24 (0, 0)) ∧ ((w.alloc (.cells t 24)).alloc (.cells z 24)).heap[w.heap.size + 1]? = some (.cells z 24 (0, 0)) ∧ Below w.heap.size w ((w.alloc (.cells t 24)).alloc (.cells z 24)) :=
  ⟨blk_alloc (blk_new w _) _, by have h := blk_new (w.alloc (.cells t 24)) (.cells z 24); simpa using h, below_alloc (below_alloc (Below.refl _ _) _) _⟩
theorem blk_put5 {w : World} {g : Nat} {t : TypeId} {c0 c1 c2 c3 c4 v0 v1 v2 v3 v4 : Value} (h : w.heap[g]? = some (.cells #[c0, c1, c2, c3, c4] t (0, 0))) :
    (((((w.setCell ⟨g, 0, none⟩ v0).setCell ⟨g, 1, none⟩ v1).setCell ⟨g, 2, none⟩ v2).setCell ⟨g, 3, none⟩ v3).setCell ⟨g, 4, none⟩ v4).heap[g]? = some (.cells #[v0, v1, v2, v3, v4] t (0, 0)) :=
  blk_put (blk_put (blk_put (blk_put (blk_put h 0 v0 rfl) 1 v1 rfl) 2 v2 rfl) 3 v3 rfl) 4 v4 rfl
theorem below_set5 {w W : World} {g : Nat} {v0 v1 v2 v3 v4 : Value} (h : Below w.heap.size w W) (hg : w.heap.size ≤ g) :
    Below w.heap.size w (((((W.setCell ⟨g, 0, none⟩ v0).setCell ⟨g, 1, none⟩ v1).setCell ⟨g, 2, none⟩ v2).setCell ⟨g, 3, none⟩ v3).setCell ⟨g, 4, none⟩ v4) :=
  below_set (below_set (below_set (below_set (below_set h hg) hg) hg) hg) hg
theorem kq_set5 {T : Nat → Prop} {w W : World} {g : Nat} {c0 c1 c2 c3 c4 v0 v1 v2 v3 v4 : Value} {t : TypeId} (h : Kq T w W) (hz : W.heap[g]? = some (.cells #[c0, c1, c2, c3, c4] t (0, 0))) (ht : ¬ T t) :
    Kq T w (((((W.setCell ⟨g, 0, none⟩ v0).setCell ⟨g, 1, none⟩ v1).setCell ⟨g, 2, none⟩ v2).setCell ⟨g, 3, none⟩ v3).setCell ⟨g, 4, none⟩ v4) :=
  ((((h.set hz ht 0 v0).set (blk_put hz 0 v0 rfl) ht 1 v1).set (blk_put (blk_put hz 0 v0 rfl) 1 v1 rfl) ht 2 v2).set (blk_put (blk_put (blk_put hz 0 v0 rfl) 1 v1 rfl) 2 v2 rfl) ht 3 v3).set (blk_put (blk_put (blk_put (blk_put hz 0 v0 rfl) 1 v1 rfl) 2 v2 rfl) 3 v3 rfl) ht 4 v4
theorem at_int {k : IntKind} {w : World} {A : Option Addr} {n : Nat} {xs : List Int} (h : Kd.C (Kd.int k) w A n xs) (i : Int) (h0 : 0 ≤ i) (h1 : i < n) : ∃ ad, A = some ad ∧ w.cell? (ad.add i.toNat) = some (.int k (rd xs i)) := by
  obtain ⟨ad, c, e, _, hK, hc⟩ := Kd.C_get h (0 : Int) i h0 h1
  have hK' : c = [.int k (xs.getD i.toNat 0)] := hK
  subst hK'
  have h2 : w.cell? (ad.add (i.toNat * 1 + 0)) = some (.int k (rd xs i)) := hc 0 _ rfl
  exact ⟨ad, e, by simpa using h2⟩
theorem StC.drew {W : World} {g : Nat} {e s st ap : Int} {v u : Value} (h : StC W g e s v st ap u) : StC W.drew g e s v st ap u := h
theorem R_fresh {α : Type} {d : Kd α} {e base : Nat} {ok : Nat → Prop} {w : World} {v : Value} {xs : List α} (h : Kd.R d e w base ok v xs) : ∀ k, w.heap.size ≤ k → some k ≠ v.ownBlock := fun k hk he => by
  obtain ⟨inner, ho⟩ := Kd.R_own h
  have := own_lt ho k he.symm
  omega
def lastOf (ap : Int) (l : List Int) : Int := if l.length = 0 then ap else rd l ((l.length : Int) - 1)
theorem check_int {P : Program} {kt : TypeId} {k : IntKind} (hk : P.underlying kt = some (.int k)) (w : World) (e : Bool) (n : Int) : (Instr.checkKey e 10000 kt (.int k n)).run P w = .ok () w := by
  rw [show (10000 : Nat) = 9999 + 1 from rfl]
  generalize (9999 : Nat) = m
  simp [Instr.checkKey, run_underlying hk]
theorem ins_int {P : Program} {T kt et : TypeId} {k : IntKind} (hT : P.underlying T = some (.map kt et)) (hk : P.underlying kt = some (.int k)) {w : World} {b : Nat} {es : Array MapEntry} {clock : Nat} (hb : w.heap[b]? = some (.map es clock)) (n : Int) (v : Value)
    (hf : Instr.findNow (.int k) (.int k n) es.toList 0 = some none) : ∃ w', (Instr.mapUpdate T (.map (some b)) (.int k n) v).run P w = .ok () w' ∧ w'.heap[b]? = some (.map (es.push ⟨.int k n, v, clock⟩) (clock + 1)) ∧ w.grownBy w' (some b) := by
  refine ⟨Go.ChangeMaps.setBlock w b (.map (es.push ⟨.int k n, v, clock⟩) (clock + 1)), ?_, Go.ChangeMaps.heap_setBlock_same hb _, ⟨rfl, rfl, rfl, by simp [Go.ChangeMaps.setBlock], fun i _ hi => Go.ChangeMaps.heap_setBlock_other hb _ (fun e => hi (by rw [e]))⟩⟩
  simp [Instr.mapUpdate, run_underlying hT, MapKept.run_getObj_map hb, check_int hk, Instr.findKey, run_underlying hk, hf, MapKept.run_setObj_map _ hb, Result.andThen, Go.ChangeMaps.setBlock]
theorem look_int {P : Program} {T kt et : TypeId} {k : IntKind} (hT : P.underlying T = some (.map kt et)) (hk : P.underlying kt = some (.int k)) {w : World} {b : Nat} {es : Array MapEntry} {clock : Nat} (hb : w.heap[b]? = some (.map es clock)) (n : Int) (i : Nat) (v : Value)
    (hf : Instr.findNow (.int k) (.int k n) es.toList 0 = some (some (i, v))) (ok : Bool) : (Instr.lookup T (.map (some b)) (.int k n) ok).run P w = .ok (if ok then .tuple #[v, .bool true] else v) w := by
  simp [Instr.lookup, run_underlying hT, MapKept.run_getObj_map hb, check_int hk, Instr.findKey, run_underlying hk, hf, Result.andThen]
theorem look_none {P : Program} {T kt et : TypeId} {k : IntKind} (hT : P.underlying T = some (.map kt et)) (hk : P.underlying kt = some (.int k)) {w : World} {b : Nat} {es : Array MapEntry} {clock : Nat} (hb : w.heap[b]? = some (.map es clock)) (n : Int) (z : Value) (hz : (zeroValue et).run P w = .ok z w)
    (hf : Instr.findNow (.int k) (.int k n) es.toList 0 = some none) (ok : Bool) : (Instr.lookup T (.map (some b)) (.int k n) ok).run P w = .ok (if ok then .tuple #[z, .bool false] else z) w := by
  simp [Instr.lookup, run_underlying hT, MapKept.run_getObj_map hb, check_int hk, Instr.findKey, run_underlying hk, hf, hz, Result.andThen]
theorem wpList_insert_at {P : Program} (w : World) {ops : Array Oper} {rest : List Oper} {o : Oper} {a : Act} {Q : Exit → Act → World → Prop} (hg : o.guard = none) (m x v : Operand) (T : TypeId) (hop : o.op = Op.insert T m x v) {kt et : TypeId} {k : IntKind}
    (hT : P.underlying T = some (.map kt et)) (hk : P.underlying kt = some (.int k)) (b : Nat) (es : Array MapEntry) (clock : Nat) (n : Int) (fv : Value) (hm : a.eval m = .map (some b)) (hx : a.eval x = .int k n) (hv : a.eval v = fv) (hb : w.heap[b]? = some (.map es clock))
    (hf : Instr.findNow (.int k) (.int k n) es.toList 0 = some none) (hK : ∀ w', w'.heap[b]? = some (.map (es.push ⟨.int k n, fv, clock⟩) (clock + 1)) → w.grownBy w' (some b) → wpList P ops Q rest (a.put o.dst undef) w') : wpList P ops Q (o :: rest) a w := by
  refine wpList_plain hg fun K' hK' => ?_
  obtain ⟨w', hrun, r1, r2⟩ := ins_int hT hk hb n fv hf
  unfold Oper.wp
  simp [execOp, hop, hm, hx, hv, hrun, Result.andThen]
  exact hK' _ _ (hK w' r1 r2)
theorem three_alloc (w : World) (t m z : Array Value) : (((w.alloc (.cells t 24)).alloc (.cells m 53)).alloc (.cells z 24)).heap[w.heap.size]? = some (.cells t 24 (0, 0)) ∧ (((w.alloc (.cells t 24)).alloc (.cells m 53)).alloc (.cells z 24)).heap[w.heap.size + 1]? = some (.cells m 53 (0, 0)) ∧ (((w.alloc (.cells t 24)).alloc (.cells m 53)).alloc (.cells z 24)).heap[w.heap.size + 1 + 1]? = some (.cells z 24 (0, 0)) ∧ Below w.heap.size w (((w.alloc (.cells t 24)).alloc (.cells m 53)).alloc (.cells z 24)) :=
  ⟨blk_alloc (blk_alloc (blk_new w _) _) _, by have h := blk_alloc (blk_new (w.alloc (.cells t 24)) (.cells m 53)) (.cells z 24); simpa using h, by have h := blk_new ((w.alloc (.cells t 24)).alloc (.cells m 53)) (.cells z 24); simpa using h, below_alloc (below_alloc (below_alloc (Below.refl _ _) _) _) _⟩
theorem map_below {W W' : World} (h : (W.alloc (.map #[] 0)).grownBy W' (some W.heap.size)) : Below W.heap.size W W' :=
  ⟨h.os, h.tape, h.output, Nat.le_trans (Nat.le_succ _) (by have := h.size; simpa using this), fun k hk => (h.block k (by simp; omega) (by simp; omega)).trans (((Below.refl W.heap.size W).alloc (Nat.le_refl _) _).block k hk)⟩
theorem not_found {n : Int} {f g h : Value} (h1 : n ≠ 9) (h2 : n ≠ 11) (h3 : n ≠ 12) : Instr.findNow (.int .i64) (.int .i64 n) [⟨.int .i64 9, f, 0⟩, ⟨.int .i64 11, g, 1⟩, ⟨.int .i64 12, h, 2⟩] 0 = some none := by
  have b1 : (n == 9) = false := beq_eq_false_iff_ne.2 h1
  have b2 : (n == 11) = false := beq_eq_false_iff_ne.2 h2
  have b3 : (n == 12) = false := beq_eq_false_iff_ne.2 h3
  simp [Instr.findNow, Instr.sameNow, b1, b2, b3]
theorem found_one {n : Int} (f g h : Value) (hn : n = 9 ∨ n = 11 ∨ n = 12) : ∃ i v, Instr.findNow (.int .i64) (.int .i64 n) [⟨.int .i64 9, f, 0⟩, ⟨.int .i64 11, g, 1⟩, ⟨.int .i64 12, h, 2⟩] 0 = some (some (i, v)) := by
  rcases hn with rfl | rfl | rfl
  · exact ⟨0, f, rfl⟩
  · exact ⟨1, g, rfl⟩
  · exact ⟨2, h, rfl⟩
theorem zero84 (w : World) : (zeroValue 84).run Try.prog w = .ok .nilFunc w := by kernel_rfl
end Go.Proofs.Ytedoloapddmanaa.PB
