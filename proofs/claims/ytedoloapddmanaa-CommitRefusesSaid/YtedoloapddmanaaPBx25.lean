-- Written by a program of this session (wip/tools) over the kit's print.
import Derived.Test.YtedoloapddmanaaPBx0
import Derived.Test.YtedoloapddmanaaSh
import Derived.Test.YtedoloapddmanaaSh2
import Derived.Test.YtedoloapddmanaaPBx2
import Derived.Test.YtedoloapddmanaaPBx5
import Derived.Test.YtedoloapddmanaaPBx11
namespace Go.Proofs.Ytedoloapddmanaa.PB
open Go.RowKit Go.Proofs.YtedoloapddmanaaW.PrintWords Go.Proofs.YtedoloapddmanaaW.PrintLast Go.Proofs.YtedoloapddmanaaW.PrintMore
attribute [local go_sem] max2_int min2_int max_two min_two max_three min_three max_four min_four   -- for this text's walks alone
set_option linter.unusedVariables false
set_option linter.unusedSimpArgs false
theorem three_alloc26 (w : World) (t m z : Array Value) : (((w.alloc (.cells t 26)).alloc (.cells m 53)).alloc (.cells z 26)).heap[w.heap.size]? = some (.cells t 26 (0, 0)) ∧ (((w.alloc (.cells t 26)).alloc (.cells m 53)).alloc (.cells z 26)).heap[w.heap.size + 1]? = some (.cells m 53 (0, 0)) ∧ (((w.alloc (.cells t 26)).alloc (.cells m 53)).alloc (.cells z 26)).heap[w.heap.size + 1 + 1]? = some (.cells z 26 (0, 0)) ∧ Below w.heap.size w (((w.alloc (.cells t 26)).alloc (.cells m 53)).alloc (.cells z 26)) :=
  ⟨blk_alloc (blk_alloc (blk_new w _) _) _, by have h := blk_alloc (blk_new (w.alloc (.cells t 26)) (.cells m 53)) (.cells z 26); simpa using h, by have h := blk_new ((w.alloc (.cells t 26)).alloc (.cells m 53)) (.cells z 26); simpa using h, below_alloc (below_alloc (below_alloc (Below.refl _ _) _) _) _⟩
theorem blk_put4 {w : World} {g : Nat} {t : TypeId} {c0 c1 c2 c3 v0 v1 v2 v3 : Value} (h : w.heap[g]? = some (.cells #[c0, c1, c2, c3] t (0, 0))) :
    ((((w.setCell ⟨g, 0, none⟩ v0).setCell ⟨g, 1, none⟩ v1).setCell ⟨g, 2, none⟩ v2).setCell ⟨g, 3, none⟩ v3).heap[g]? = some (.cells #[v0, v1, v2, v3] t (0, 0)) :=
  blk_put (blk_put (blk_put (blk_put h 0 v0 rfl) 1 v1 rfl) 2 v2 rfl) 3 v3 rfl
theorem below_set4 {w W : World} {g : Nat} {v0 v1 v2 v3 : Value} (h : Below w.heap.size w W) (hg : w.heap.size ≤ g) :
    Below w.heap.size w ((((W.setCell ⟨g, 0, none⟩ v0).setCell ⟨g, 1, none⟩ v1).setCell ⟨g, 2, none⟩ v2).setCell ⟨g, 3, none⟩ v3) :=
  below_set (below_set (below_set (below_set h hg) hg) hg) hg
theorem r_set4 {α : Type} {d : Kd α} {e base : Nat} {ok : Nat → Prop} {w : World} {v : Value} {xs : List α} {g t : Nat} {c0 c1 c2 c3 v0 v1 v2 v3 : Value} (h : Kd.R d e w base ok v xs) (hb : w.heap[g]? = some (.cells #[c0, c1, c2, c3] t (0, 0))) (ht : ∀ q, q ∈ e :: d.E → q ≠ t) :
    Kd.R d e ((((w.setCell ⟨g, 0, none⟩ v0).setCell ⟨g, 1, none⟩ v1).setCell ⟨g, 2, none⟩ v2).setCell ⟨g, 3, none⟩ v3) base ok v xs :=
  Kd.R_set (Kd.R_set (Kd.R_set (Kd.R_set h hb ht 0 v0) (blk_put hb 0 v0 rfl) ht 1 v1) (blk_put (blk_put hb 0 v0 rfl) 1 v1 rfl) ht 2 v2) (blk_put (blk_put (blk_put hb 0 v0 rfl) 1 v1 rfl) 2 v2 rfl) ht 3 v3
section
variable {P : Program} {ops : Array Oper} {Q : Exit → Act → World → Prop}
theorem insert_ {oi : Oper} {a : Act} {w : World} {K : Act → World → Prop} (hw : Region.wanted oi (yielded ops a.tmps) = true) (hN : oi.dst = none) (m x v : Operand) (T : TypeId) (hop : oi.op = .insert T m x v) {kt et : TypeId} {k : IntKind}
    (hT : P.underlying T = some (.map kt et)) (hk : P.underlying kt = some (.int k)) (b : Nat) (es : Array MapEntry) (clock : Nat) (n : Int) (fv : Value) (hm : a.eval m = .map (some b)) (hx : a.eval x = .int k n) (hv : a.eval v = fv) (hb : w.heap[b]? = some (.map es clock))
    (hf : Instr.findNow (.int k) (.int k n) es.toList 0 = some none) (h : ∀ w', w'.heap[b]? = some (.map (es.push ⟨.int k n, fv, clock⟩) (clock + 1)) → w.grownBy w' (some b) → K a w') : if Region.wanted oi (yielded ops a.tmps) = true then Oper.wp P oi a w K Q else K (a.put none undef) w := by
  obtain ⟨w', hrun, r1, r2⟩ := ins_int hT hk hb n fv hf
  refine skip_ (w1 := w') hw hN ?_ (h w' r1 r2)
  simp [execOp, hop, hm, hx, hv, hrun, Result.andThen]
theorem look_ {oi : Oper} {N : Option Tmp} {a : Act} {w : World} {K : Act → World → Prop} (hw : Region.wanted oi (yielded ops a.tmps) = true) (hN : oi.dst = N) (m x : Operand) (T : TypeId) (hop : oi.op = .lookup T m x false) {kt et : TypeId} {k : IntKind}
    (hT : P.underlying T = some (.map kt et)) (hk : P.underlying kt = some (.int k)) (b : Nat) (es : Array MapEntry) (clock : Nat) (n : Int) (i : Nat) (fv : Value) (hm : a.eval m = .map (some b)) (hx : a.eval x = .int k n) (hb : w.heap[b]? = some (.map es clock))
    (hf : Instr.findNow (.int k) (.int k n) es.toList 0 = some (some (i, fv))) (h : K (a.put N fv) w) : if Region.wanted oi (yielded ops a.tmps) = true then Oper.wp P oi a w K Q else K (a.put N undef) w := by
  have hrun := look_int hT hk hb n i fv hf false
  refine value_ (w1 := w) hw hN ?_ h
  simp [execOp, hop, hm, hx, hrun, Result.andThen]
theorem goesV_ {oi : Oper} {N : Option Tmp} {a : Act} {w : World} {K : Act → World → Prop} {f : FuncId} {fn : Func} (hf : P.funcs[f]? = some fn) (hname : (fn.name == "runtime.NumGoroutine") = false) (hb : fn.body.isSome = true) (first : Array Value) (s : Tmp)
    (hw : Region.wanted oi (yielded ops a.tmps) = true) (hN : oi.dst = N) (hop : oi.op = .call { callee := .value (.tmp s), args := #[], argTypes := #[] }) (hv : a.eval (.tmp s) = .func (.func f) first #[])
    (h : Calls P f first w fun e w' => ∃ v, e = .returned v ∧ K (a.put N v) w') : if Region.wanted oi (yielded ops a.tmps) = true then Oper.wp P oi a w K Q else K (a.put N undef) w := by
  refine call_ f first hw hN ?_ h
  have he := enters_ hf hname hb first w
  unfold execOp
  simp [hop, resolve, Deferred.ofValue, invoke, hv, he]
end
set_option maxHeartbeats 16000000 in
set_option maxRecDepth 100000 in
theorem answer_err (k : Nat) (e s st ap : Int) (m0 m1 m2 m3 m4 m5 : Int) (q6 q7 : Value) (r : Int) (w : World) (h : commit_CheckTarget.f k e s st ap = some r) (he : r ≠ 0) :
    Calls Try.prog 35 #[.agg #[.int .i64 e, .int .i64 s, .int .i64 st, .int .i64 ap], .agg #[.int .i64 m0, .int .i64 m1, .int .i64 m2, .int .i64 m3, .int .i64 m4, .int .i64 m5, q6, q7]] w fun e' w' => e' = .returned (.tuple #[.agg #[.int .i64 e, .int .i64 s, .int .i64 st, .int .i64 ap], .slice none 0 0]) ∧ Below w.heap.size w w' := by
  have hu26 := Try.underlying26
  have hu53 := Try.underlying53
  have hu88 := Try.underlying88
  have hn : (r != 0) = true := bne_iff_ne.2 he
  have H := Aside0.mk h
  clear h
  have HE := Aside0.mk he
  clear he
  have hgz : w.heap.size ≤ w.heap.size + 1 + 1 := by omega
  go_enter Try.func35, Try.ntmps35
  go_wp2_with fail
  have hW := three_alloc26 w #[.int .i64 e, .int .i64 s, .int .i64 st, .int .i64 ap] #[.int .i64 m0, .int .i64 m1, .int .i64 m2, .int .i64 m3, .int .i64 m4, .int .i64 m5, q6, q7] #[.int .i64 0, .int .i64 0, .int .i64 0, .int .i64 0]
  generalize ((w.alloc (.cells #[.int .i64 e, .int .i64 s, .int .i64 st, .int .i64 ap] 26)).alloc (.cells #[.int .i64 m0, .int .i64 m1, .int .i64 m2, .int .i64 m3, .int .i64 m4, .int .i64 m5, q6, q7] 53)).alloc (.cells #[.int .i64 0, .int .i64 0, .int .i64 0, .int .i64 0] 26) = W at hW ⊢
  refine (commit_CheckTarget.calls k e s st ap r W H.out).mono ?_
  rintro e' w1 ⟨rfl, hb⟩
  have HX1 := Aside0.mk (blk_below hW.1 hb)
  have HM1 := Aside0.mk (blk_below hW.2.1 hb)
  have HZ1 := Aside0.mk (blk_below hW.2.2.1 hb)
  have HB1 := Aside0.mk (below_then hW.2.2.2 hW.2.2.2.size hb)
  clear hb hW
  have hx := HX1.out
  obtain ⟨hcx0, hcx1, hcx2, hcx3⟩ := cz4 hx
  obtain ⟨hfx0, hfx1, hfx2, hfx3⟩ := fz4 hx
  clear hx
  have hm := HM1.out
  obtain ⟨hcm0, hcm1, hcm2, hcm3, hcm4, hcm5, -, -⟩ := cz8 hm
  clear hm
  have hz := HZ1.out
  obtain ⟨hcz0, hcz1, hcz2, hcz3⟩ := cz4 hz
  obtain ⟨hfz0, hfz1, hfz2, hfz3⟩ := fz4 hz
  clear hz
  go_wp2
  refine bodyPost_ret (results_ct rfl _ _ (w.heap.size + 1 + 1) 26 #[.int .i64 e, .int .i64 s, .int .i64 st, .int .i64 ap] (0, 0) _ rfl (blk_put4 HZ1.out) Try.underlying26 rfl (by kernel_rfl)) rfl ?_
  exact ⟨rfl, below_set4 HB1.out hgz⟩
set_option maxHeartbeats 16000000 in
set_option maxRecDepth 100000 in
theorem answer_site (k : Nat) (e s st ap : Int) (m0 m1 m2 m3 m4 m5 : Int) (q6 q7 : Value) (w : World) (h : commit_CheckTarget.f k e s st ap = some 0) (h1 : m2 ≠ s) :
    Calls Try.prog 35 #[.agg #[.int .i64 e, .int .i64 s, .int .i64 st, .int .i64 ap], .agg #[.int .i64 m0, .int .i64 m1, .int .i64 m2, .int .i64 m3, .int .i64 m4, .int .i64 m5, q6, q7]] w fun e' w' => e' = .returned (.tuple #[.agg #[.int .i64 e, .int .i64 s, .int .i64 st, .int .i64 ap], .slice none 0 0]) ∧ Below w.heap.size w w' := by
  have hu26 := Try.underlying26
  have hu53 := Try.underlying53
  have hu88 := Try.underlying88
  have hn1 : (m2 != s) = true := bne_iff_ne.2 h1
  have H := Aside0.mk h
  clear h
  have H1 := Aside0.mk h1
  clear h1
  have hgz : w.heap.size ≤ w.heap.size + 1 + 1 := by omega
  go_enter Try.func35, Try.ntmps35
  go_wp2_with fail
  have hW := three_alloc26 w #[.int .i64 e, .int .i64 s, .int .i64 st, .int .i64 ap] #[.int .i64 m0, .int .i64 m1, .int .i64 m2, .int .i64 m3, .int .i64 m4, .int .i64 m5, q6, q7] #[.int .i64 0, .int .i64 0, .int .i64 0, .int .i64 0]
  generalize ((w.alloc (.cells #[.int .i64 e, .int .i64 s, .int .i64 st, .int .i64 ap] 26)).alloc (.cells #[.int .i64 m0, .int .i64 m1, .int .i64 m2, .int .i64 m3, .int .i64 m4, .int .i64 m5, q6, q7] 53)).alloc (.cells #[.int .i64 0, .int .i64 0, .int .i64 0, .int .i64 0] 26) = W at hW ⊢
  refine (commit_CheckTarget.calls k e s st ap 0 W H.out).mono ?_
  rintro e' w1 ⟨rfl, hb⟩
  have HX1 := Aside0.mk (blk_below hW.1 hb)
  have HM1 := Aside0.mk (blk_below hW.2.1 hb)
  have HZ1 := Aside0.mk (blk_below hW.2.2.1 hb)
  have HB1 := Aside0.mk (below_then hW.2.2.2 hW.2.2.2.size hb)
  clear hb hW
  have hx := HX1.out
  obtain ⟨hcx0, hcx1, hcx2, hcx3⟩ := cz4 hx
  obtain ⟨hfx0, hfx1, hfx2, hfx3⟩ := fz4 hx
  clear hx
  have hm := HM1.out
  obtain ⟨hcm0, hcm1, hcm2, hcm3, hcm4, hcm5, -, -⟩ := cz8 hm
  clear hm
  have hz := HZ1.out
  obtain ⟨hcz0, hcz1, hcz2, hcz3⟩ := cz4 hz
  obtain ⟨hfz0, hfz1, hfz2, hfz3⟩ := fz4 hz
  clear hz
  go_wp2
  refine bodyPost_ret (results_ct rfl _ _ (w.heap.size + 1 + 1) 26 #[.int .i64 e, .int .i64 s, .int .i64 st, .int .i64 ap] (0, 0) _ rfl (blk_put4 HZ1.out) Try.underlying26 rfl (by kernel_rfl)) rfl ?_
  exact ⟨rfl, below_set4 HB1.out hgz⟩
set_option maxHeartbeats 16000000 in
set_option maxRecDepth 100000 in
theorem answer_time (k : Nat) (e s st ap : Int) (m0 m1 m2 m3 m4 m5 : Int) (q6 q7 : Value) (w : World) (h : commit_CheckTarget.f k e s st ap = some 0) (h1 : m2 = s) (ht : commit_time.f m5 = some false) :
    Calls Try.prog 35 #[.agg #[.int .i64 e, .int .i64 s, .int .i64 st, .int .i64 ap], .agg #[.int .i64 m0, .int .i64 m1, .int .i64 m2, .int .i64 m3, .int .i64 m4, .int .i64 m5, q6, q7]] w fun e' w' => e' = .returned (.tuple #[.agg #[.int .i64 e, .int .i64 s, .int .i64 st, .int .i64 ap], .slice none 0 0]) ∧ Below w.heap.size w w' := by
  have hu26 := Try.underlying26
  have hu53 := Try.underlying53
  have hu88 := Try.underlying88
  have hn1 : (m2 != s) = false := by rw [h1]; exact bne_self_eq_false s
  have H := Aside0.mk h
  clear h
  have H1 := Aside0.mk h1
  clear h1
  have HT := Aside0.mk ht
  clear ht
  have hgz : w.heap.size ≤ w.heap.size + 1 + 1 := by omega
  go_enter Try.func35, Try.ntmps35
  go_wp2_with fail
  have hW := three_alloc26 w #[.int .i64 e, .int .i64 s, .int .i64 st, .int .i64 ap] #[.int .i64 m0, .int .i64 m1, .int .i64 m2, .int .i64 m3, .int .i64 m4, .int .i64 m5, q6, q7] #[.int .i64 0, .int .i64 0, .int .i64 0, .int .i64 0]
  generalize ((w.alloc (.cells #[.int .i64 e, .int .i64 s, .int .i64 st, .int .i64 ap] 26)).alloc (.cells #[.int .i64 m0, .int .i64 m1, .int .i64 m2, .int .i64 m3, .int .i64 m4, .int .i64 m5, q6, q7] 53)).alloc (.cells #[.int .i64 0, .int .i64 0, .int .i64 0, .int .i64 0] 26) = W at hW ⊢
  refine (commit_CheckTarget.calls k e s st ap 0 W H.out).mono ?_
  rintro e' w1 ⟨rfl, hb⟩
  have HX1 := Aside0.mk (blk_below hW.1 hb)
  have HM1 := Aside0.mk (blk_below hW.2.1 hb)
  have HZ1 := Aside0.mk (blk_below hW.2.2.1 hb)
  have HB1 := Aside0.mk (below_then hW.2.2.2 hW.2.2.2.size hb)
  clear hb hW
  have hx := HX1.out
  obtain ⟨hcx0, hcx1, hcx2, hcx3⟩ := cz4 hx
  obtain ⟨hfx0, hfx1, hfx2, hfx3⟩ := fz4 hx
  clear hx
  have hm := HM1.out
  obtain ⟨hcm0, hcm1, hcm2, hcm3, hcm4, hcm5, -, -⟩ := cz8 hm
  clear hm
  have hz := HZ1.out
  obtain ⟨hcz0, hcz1, hcz2, hcz3⟩ := cz4 hz
  obtain ⟨hfz0, hfz1, hfz2, hfz3⟩ := fz4 hz
  clear hz
  go_wp2_with fail
  refine (commit_time.calls m5 false _ HT.out).mono ?_
  rintro e' w2 ⟨rfl, hd⟩
  clear hcx0 hfx0 hcx1 hfx1 hcx2 hfx2 hcx3 hfx3
  clear hcm0 hcm1 hcm2 hcm3 hcm4 hcm5
  clear hcz0 hfz0 hcz1 hfz1 hcz2 hfz2 hcz3 hfz3
  have HX2 := Aside0.mk (blk_below HX1.out hd.below)
  have HM2 := Aside0.mk (blk_below HM1.out hd.below)
  have HZ2 := Aside0.mk (blk_below HZ1.out hd.below)
  have HB2 := Aside0.mk (below_then HB1.out HB1.out.size hd.below)
  clear HX1 HM1 HZ1 HB1
  clear hd
  have hx := HX2.out
  obtain ⟨hcx0, hcx1, hcx2, hcx3⟩ := cz4 hx
  obtain ⟨hfx0, hfx1, hfx2, hfx3⟩ := fz4 hx
  clear hx
  have hm := HM2.out
  obtain ⟨hcm0, hcm1, hcm2, hcm3, hcm4, hcm5, -, -⟩ := cz8 hm
  clear hm
  have hz := HZ2.out
  obtain ⟨hcz0, hcz1, hcz2, hcz3⟩ := cz4 hz
  obtain ⟨hfz0, hfz1, hfz2, hfz3⟩ := fz4 hz
  clear hz
  go_wp2
  refine bodyPost_ret (results_ct rfl _ _ (w.heap.size + 1 + 1) 26 #[.int .i64 e, .int .i64 s, .int .i64 st, .int .i64 ap] (0, 0) _ rfl (blk_put4 HZ2.out) Try.underlying26 rfl (by kernel_rfl)) rfl ?_
  exact ⟨rfl, below_set4 HB2.out hgz⟩
set_option maxHeartbeats 16000000 in
set_option maxRecDepth 100000 in
theorem answer_kind (k : Nat) (e s st ap : Int) (m0 m1 m2 m3 m4 m5 : Int) (q6 q7 : Value) (w : World) (h : commit_CheckTarget.f k e s st ap = some 0) (h1 : m2 = s) (ht : commit_time.f m5 = some true) (hk : m0 ≠ 8 ∧ m0 ≠ 10) :
    Calls Try.prog 35 #[.agg #[.int .i64 e, .int .i64 s, .int .i64 st, .int .i64 ap], .agg #[.int .i64 m0, .int .i64 m1, .int .i64 m2, .int .i64 m3, .int .i64 m4, .int .i64 m5, q6, q7]] w fun e' w' => e' = .returned (.tuple #[.agg #[.int .i64 e, .int .i64 s, .int .i64 st, .int .i64 ap], .slice none 0 0]) ∧ Below w.heap.size w w' := by
  have hu26 := Try.underlying26
  have hu53 := Try.underlying53
  have hu88 := Try.underlying88
  have hn1 : (m2 != s) = false := by rw [h1]; exact bne_self_eq_false s
  have hk1 : (m0 != 8) = true := bne_iff_ne.2 hk.1
  have hk2 : (m0 != 10) = true := bne_iff_ne.2 hk.2
  have H := Aside0.mk h
  clear h
  have H1 := Aside0.mk h1
  clear h1
  have HT := Aside0.mk ht
  clear ht
  have HK := Aside0.mk hk
  clear hk
  have hgz : w.heap.size ≤ w.heap.size + 1 + 1 := by omega
  go_enter Try.func35, Try.ntmps35
  go_wp2_with fail
  have hW := three_alloc26 w #[.int .i64 e, .int .i64 s, .int .i64 st, .int .i64 ap] #[.int .i64 m0, .int .i64 m1, .int .i64 m2, .int .i64 m3, .int .i64 m4, .int .i64 m5, q6, q7] #[.int .i64 0, .int .i64 0, .int .i64 0, .int .i64 0]
  generalize ((w.alloc (.cells #[.int .i64 e, .int .i64 s, .int .i64 st, .int .i64 ap] 26)).alloc (.cells #[.int .i64 m0, .int .i64 m1, .int .i64 m2, .int .i64 m3, .int .i64 m4, .int .i64 m5, q6, q7] 53)).alloc (.cells #[.int .i64 0, .int .i64 0, .int .i64 0, .int .i64 0] 26) = W at hW ⊢
  refine (commit_CheckTarget.calls k e s st ap 0 W H.out).mono ?_
  rintro e' w1 ⟨rfl, hb⟩
  have HX1 := Aside0.mk (blk_below hW.1 hb)
  have HM1 := Aside0.mk (blk_below hW.2.1 hb)
  have HZ1 := Aside0.mk (blk_below hW.2.2.1 hb)
  have HB1 := Aside0.mk (below_then hW.2.2.2 hW.2.2.2.size hb)
  clear hb hW
  have hx := HX1.out
  obtain ⟨hcx0, hcx1, hcx2, hcx3⟩ := cz4 hx
  obtain ⟨hfx0, hfx1, hfx2, hfx3⟩ := fz4 hx
  clear hx
  have hm := HM1.out
  obtain ⟨hcm0, hcm1, hcm2, hcm3, hcm4, hcm5, -, -⟩ := cz8 hm
  clear hm
  have hz := HZ1.out
  obtain ⟨hcz0, hcz1, hcz2, hcz3⟩ := cz4 hz
  obtain ⟨hfz0, hfz1, hfz2, hfz3⟩ := fz4 hz
  clear hz
  go_wp2_with fail
  refine (commit_time.calls m5 true _ HT.out).mono ?_
  rintro e' w2 ⟨rfl, hd⟩
  clear hcx0 hfx0 hcx1 hfx1 hcx2 hfx2 hcx3 hfx3
  clear hcm0 hcm1 hcm2 hcm3 hcm4 hcm5
  clear hcz0 hfz0 hcz1 hfz1 hcz2 hfz2 hcz3 hfz3
  have HX2 := Aside0.mk (blk_below HX1.out hd.below)
  have HM2 := Aside0.mk (blk_below HM1.out hd.below)
  have HZ2 := Aside0.mk (blk_below HZ1.out hd.below)
  have HB2 := Aside0.mk (below_then HB1.out HB1.out.size hd.below)
  clear HX1 HM1 HZ1 HB1
  clear hd
  have hx := HX2.out
  obtain ⟨hcx0, hcx1, hcx2, hcx3⟩ := cz4 hx
  obtain ⟨hfx0, hfx1, hfx2, hfx3⟩ := fz4 hx
  clear hx
  have hm := HM2.out
  obtain ⟨hcm0, hcm1, hcm2, hcm3, hcm4, hcm5, -, -⟩ := cz8 hm
  clear hm
  have hz := HZ2.out
  obtain ⟨hcz0, hcz1, hcz2, hcz3⟩ := cz4 hz
  obtain ⟨hfz0, hfz1, hfz2, hfz3⟩ := fz4 hz
  clear hz
  go_wp2
  refine bodyPost_ret (results_ct rfl _ _ (w.heap.size + 1 + 1) 26 #[.int .i64 e, .int .i64 s, .int .i64 st, .int .i64 ap] (0, 0) _ rfl (blk_put4 HZ2.out) Try.underlying26 rfl (by kernel_rfl)) rfl ?_
  exact ⟨rfl, below_set4 HB2.out hgz⟩
set_option maxHeartbeats 16000000 in
set_option maxRecDepth 100000 in
theorem answer_refuse8 (k : Nat) (e s st ap : Int) (m0 m1 m2 m3 m4 m5 : Int) (q6 q7 : Value) (w : World) (h : commit_CheckTarget.f k e s st ap = some 0) (h1 : m2 = s) (ht : commit_time.f m5 = some true) (hk : m0 = 8) (h3 : m5 < e) :
    Calls Try.prog 35 #[.agg #[.int .i64 e, .int .i64 s, .int .i64 st, .int .i64 ap], .agg #[.int .i64 m0, .int .i64 m1, .int .i64 m2, .int .i64 m3, .int .i64 m4, .int .i64 m5, q6, q7]] w fun e' w' => ∃ v4_ : Value, e' = .returned (.tuple #[.agg #[.int .i64 e, .int .i64 s, .int .i64 st, .int .i64 ap], v4_]) ∧ Kd.R k53 53 w' w.heap.size (fun _ => True) v4_ [(⟨12, s, 0, 0, 0, e, (), ()⟩ : S53)] ∧ Below w.heap.size w w' := by
  have hu26 := Try.underlying26
  have hu53 := Try.underlying53
  have hu88 := Try.underlying88
  have hn1 : (m2 != s) = false := by rw [h1]; exact bne_self_eq_false s
  have hk1 : (m0 != 8) = false := by rw [hk]; rfl
  have hd3 : decide (m5 < e) = true := decide_eq_true h3
  have H := Aside0.mk h
  clear h
  have H1 := Aside0.mk h1
  clear h1
  have HT := Aside0.mk ht
  clear ht
  have HK := Aside0.mk hk
  clear hk
  have H3 := Aside0.mk h3
  clear h3
  have hgz : w.heap.size ≤ w.heap.size + 1 + 1 := by omega
  go_enter Try.func35, Try.ntmps35
  go_wp2_with fail
  have hW := three_alloc26 w #[.int .i64 e, .int .i64 s, .int .i64 st, .int .i64 ap] #[.int .i64 m0, .int .i64 m1, .int .i64 m2, .int .i64 m3, .int .i64 m4, .int .i64 m5, q6, q7] #[.int .i64 0, .int .i64 0, .int .i64 0, .int .i64 0]
  generalize ((w.alloc (.cells #[.int .i64 e, .int .i64 s, .int .i64 st, .int .i64 ap] 26)).alloc (.cells #[.int .i64 m0, .int .i64 m1, .int .i64 m2, .int .i64 m3, .int .i64 m4, .int .i64 m5, q6, q7] 53)).alloc (.cells #[.int .i64 0, .int .i64 0, .int .i64 0, .int .i64 0] 26) = W at hW ⊢
  refine (commit_CheckTarget.calls k e s st ap 0 W H.out).mono ?_
  rintro e' w1 ⟨rfl, hb⟩
  have HX1 := Aside0.mk (blk_below hW.1 hb)
  have HM1 := Aside0.mk (blk_below hW.2.1 hb)
  have HZ1 := Aside0.mk (blk_below hW.2.2.1 hb)
  have HB1 := Aside0.mk (below_then hW.2.2.2 hW.2.2.2.size hb)
  clear hb hW
  have hx := HX1.out
  obtain ⟨hcx0, hcx1, hcx2, hcx3⟩ := cz4 hx
  obtain ⟨hfx0, hfx1, hfx2, hfx3⟩ := fz4 hx
  clear hx
  have hm := HM1.out
  obtain ⟨hcm0, hcm1, hcm2, hcm3, hcm4, hcm5, -, -⟩ := cz8 hm
  clear hm
  have hz := HZ1.out
  obtain ⟨hcz0, hcz1, hcz2, hcz3⟩ := cz4 hz
  obtain ⟨hfz0, hfz1, hfz2, hfz3⟩ := fz4 hz
  clear hz
  go_wp2_with fail
  refine (commit_time.calls m5 true _ HT.out).mono ?_
  rintro e' w2 ⟨rfl, hd⟩
  clear hcx0 hfx0 hcx1 hfx1 hcx2 hfx2 hcx3 hfx3
  clear hcm0 hcm1 hcm2 hcm3 hcm4 hcm5
  clear hcz0 hfz0 hcz1 hfz1 hcz2 hfz2 hcz3 hfz3
  have HX2 := Aside0.mk (blk_below HX1.out hd.below)
  have HM2 := Aside0.mk (blk_below HM1.out hd.below)
  have HZ2 := Aside0.mk (blk_below HZ1.out hd.below)
  have HB2 := Aside0.mk (below_then HB1.out HB1.out.size hd.below)
  clear HX1 HM1 HZ1 HB1
  clear hd
  have hx := HX2.out
  obtain ⟨hcx0, hcx1, hcx2, hcx3⟩ := cz4 hx
  obtain ⟨hfx0, hfx1, hfx2, hfx3⟩ := fz4 hx
  clear hx
  have hm := HM2.out
  obtain ⟨hcm0, hcm1, hcm2, hcm3, hcm4, hcm5, -, -⟩ := cz8 hm
  clear hm
  have hz := HZ2.out
  obtain ⟨hcz0, hcz1, hcz2, hcz3⟩ := cz4 hz
  obtain ⟨hfz0, hfz1, hfz2, hfz3⟩ := fz4 hz
  clear hz
  go_wp2
  clear hcx0 hfx0 hcx1 hfx1 hcx2 hfx2 hcx3 hfx3
  clear hcm0 hcm1 hcm2 hcm3 hcm4 hcm5
  clear hcz0 hfz0 hcz1 hfz1 hcz2 hfz2 hcz3 hfz3
  refine start_ (n := 6) (S := fun w' => w'.cell? ⟨w.heap.size, 0, none⟩ = some (.int .i64 e) ∧ w'.cell? ⟨w.heap.size, 1, none⟩ = some (.int .i64 s) ∧ w'.cell? ⟨w.heap.size, 2, none⟩ = some (.int .i64 st) ∧ w'.cell? ⟨w.heap.size, 3, none⟩ = some (.int .i64 ap)) (ds := [4]) #[false, false, false, false, false, false] (by kernel_rfl) rfl rfl ⟨(blk_cell (show w2.drew.heap[w.heap.size]? = _ from HX2.out) 0).trans rfl, (blk_cell (show w2.drew.heap[w.heap.size]? = _ from HX2.out) 1).trans rfl, (blk_cell (show w2.drew.heap[w.heap.size]? = _ from HX2.out) 2).trans rfl, (blk_cell (show w2.drew.heap[w.heap.size]? = _ from HX2.out) 3).trans rfl⟩ (fun hHeld => ?_)
  refine take_ (i := 0) (N := some 39) (v := ?_) (a' := ?_) (bs 6 1) rfl rfl (by kernel_rfl) (fun _ _ _ h => h) (Or.inl ⟨by rfl, ?_⟩) hHeld ?_ ?_
  rotate_left
  · rintro w' ⟨s0, s1, s2, s3⟩
    go_simp
    with_reducible rfl
  rotate_left
  · simp only [Act.put, sA, sB, sC, i64_w, i32_w]
    rfl
  refine take_ (i := 1) (N := some 40) (v := ?_) (a' := ?_) (bs 6 3) rfl rfl (by kernel_rfl) (fun _ _ _ h => h) (Or.inl ⟨by rfl, ?_⟩) hHeld ?_ ?_
  rotate_left
  · rintro w' ⟨s0, s1, s2, s3⟩
    go_simp
    with_reducible rfl
  rotate_left
  · simp only [Act.put, sA, sB, sC, i64_w, i32_w]
    rfl
  refine pure_ (i := 2) (N := some 41) (v := ?_) (a' := ?_) (bs 6 7) rfl rfl (by kernel_rfl) (fun _ _ _ h => h) (Or.inl ⟨by rfl, ?_⟩) ?_ ?_
  rotate_left
  · intro w'
    go_simp
    with_reducible rfl
  rotate_left
  · simp only [Act.put, sA, sB, sC, i64_w, i32_w]
    rfl
  refine one_ (i := 3) (N := some 42) (bs 6 15) rfl rfl (by kernel_rfl) (by decide) (fun K hK => ?_)
  refine goes_ Try.func57 (by kernel_rfl) rfl #[.agg #[.int .i64 e, .int .i64 s, .int .i64 st, .int .i64 ap], .int .i64 12, .int .i64 0] (by rfl) rfl rfl (by simp only [List.map_toArray, List.map_cons, List.map_nil]; rfl) ?_
  refine (commit_target_message.calls e s st ap 12 0 _ _ rfl).mono ?_
  rintro e' w9 ⟨v9, rfl, hR, hb⟩
  refine ⟨_, rfl, ?_⟩
  have HX9 := Aside0.mk (blk_below (show w2.drew.heap[w.heap.size]? = _ from HX2.out) hb)
  have HZ9 := Aside0.mk (blk_below (show w2.drew.heap[w.heap.size + 1 + 1]? = _ from HZ2.out) hb)
  have HB9 := Aside0.mk (below_then (below_drew1 HB2.out) (below_drew1 HB2.out).size hb)
  have HR9 := Aside0.mk (Kd.R_lower hR (below_drew1 HB2.out).size)
  clear hb hR
  refine hK.out _ _ ⟨(blk_cell HX9.out 0).trans rfl, (blk_cell HX9.out 1).trans rfl, (blk_cell HX9.out 2).trans rfl, (blk_cell HX9.out 3).trans rfl⟩ (fun hHeld => ?_)
  clear hK K
  refine norm_ (a' := ?_) ?_ ?_
  rotate_left
  · show Act.put _ (some 42) _ = _
    simp only [Act.put, sA, sB, sC, i64_w, i32_w]
    rfl
  refine last_ (i := 4) (N := none) (bs 6 31) rfl rfl (by kernel_rfl) (by decide) (fun K hK => ?_)
  have hz := HZ9.out
  obtain ⟨hcz0, hcz1, hcz2, hcz3⟩ := cz4 hz
  obtain ⟨hfz0, hfz1, hfz2, hfz3⟩ := fz4 hz
  clear hz
  refine skip_ (w1 := ?_) (by rfl) rfl ?_ ?_
  rotate_left
  · go_simp
    rfl
  refine hK.out _ _ ?_
  clear hK K
  refine pure_ (i := 5) (N := some 5) (v := ?_) (a' := ?_) (bs 6 63) rfl rfl (by kernel_rfl) (fun _ _ _ h => h) (Or.inl ⟨by rfl, ?_⟩) ?_ ?_
  rotate_left
  · intro w'
    go_simp
    with_reducible rfl
  rotate_left
  · simp only [Act.put, sA, sB, sC, i64_w, i32_w]
    rfl
  refine done_ (by kernel_rfl) ?_
  go_wp2
  refine bodyPost_ret (results_ct rfl _ _ (w.heap.size + 1 + 1) 26 #[.int .i64 e, .int .i64 s, .int .i64 st, .int .i64 ap] (0, 0) _ rfl (blk_put4 HZ9.out) Try.underlying26 rfl (by kernel_rfl)) rfl ?_
  exact ⟨_, rfl, r_set4 HR9.out HZ9.out (by decide), below_set4 HB9.out hgz⟩
set_option maxHeartbeats 16000000 in
set_option maxRecDepth 100000 in
theorem answer_refuse10 (k : Nat) (e s st ap : Int) (m0 m1 m2 m3 m4 m5 : Int) (q6 q7 : Value) (w : World) (h : commit_CheckTarget.f k e s st ap = some 0) (h1 : m2 = s) (ht : commit_time.f m5 = some true) (hk : m0 = 10) (h3 : m5 < e) :
    Calls Try.prog 35 #[.agg #[.int .i64 e, .int .i64 s, .int .i64 st, .int .i64 ap], .agg #[.int .i64 m0, .int .i64 m1, .int .i64 m2, .int .i64 m3, .int .i64 m4, .int .i64 m5, q6, q7]] w fun e' w' => ∃ v4_ : Value, e' = .returned (.tuple #[.agg #[.int .i64 e, .int .i64 s, .int .i64 st, .int .i64 ap], v4_]) ∧ Kd.R k53 53 w' w.heap.size (fun _ => True) v4_ [(⟨12, s, 0, 0, 0, e, (), ()⟩ : S53)] ∧ Below w.heap.size w w' := by
  have hu26 := Try.underlying26
  have hu53 := Try.underlying53
  have hu88 := Try.underlying88
  have hn1 : (m2 != s) = false := by rw [h1]; exact bne_self_eq_false s
  have hk1 : (m0 != 8) = true := by rw [hk]; rfl
  have hk2 : (m0 != 10) = false := by rw [hk]; rfl
  have hd3 : decide (m5 < e) = true := decide_eq_true h3
  have H := Aside0.mk h
  clear h
  have H1 := Aside0.mk h1
  clear h1
  have HT := Aside0.mk ht
  clear ht
  have HK := Aside0.mk hk
  clear hk
  have H3 := Aside0.mk h3
  clear h3
  have hgz : w.heap.size ≤ w.heap.size + 1 + 1 := by omega
  go_enter Try.func35, Try.ntmps35
  go_wp2_with fail
  have hW := three_alloc26 w #[.int .i64 e, .int .i64 s, .int .i64 st, .int .i64 ap] #[.int .i64 m0, .int .i64 m1, .int .i64 m2, .int .i64 m3, .int .i64 m4, .int .i64 m5, q6, q7] #[.int .i64 0, .int .i64 0, .int .i64 0, .int .i64 0]
  generalize ((w.alloc (.cells #[.int .i64 e, .int .i64 s, .int .i64 st, .int .i64 ap] 26)).alloc (.cells #[.int .i64 m0, .int .i64 m1, .int .i64 m2, .int .i64 m3, .int .i64 m4, .int .i64 m5, q6, q7] 53)).alloc (.cells #[.int .i64 0, .int .i64 0, .int .i64 0, .int .i64 0] 26) = W at hW ⊢
  refine (commit_CheckTarget.calls k e s st ap 0 W H.out).mono ?_
  rintro e' w1 ⟨rfl, hb⟩
  have HX1 := Aside0.mk (blk_below hW.1 hb)
  have HM1 := Aside0.mk (blk_below hW.2.1 hb)
  have HZ1 := Aside0.mk (blk_below hW.2.2.1 hb)
  have HB1 := Aside0.mk (below_then hW.2.2.2 hW.2.2.2.size hb)
  clear hb hW
  have hx := HX1.out
  obtain ⟨hcx0, hcx1, hcx2, hcx3⟩ := cz4 hx
  obtain ⟨hfx0, hfx1, hfx2, hfx3⟩ := fz4 hx
  clear hx
  have hm := HM1.out
  obtain ⟨hcm0, hcm1, hcm2, hcm3, hcm4, hcm5, -, -⟩ := cz8 hm
  clear hm
  have hz := HZ1.out
  obtain ⟨hcz0, hcz1, hcz2, hcz3⟩ := cz4 hz
  obtain ⟨hfz0, hfz1, hfz2, hfz3⟩ := fz4 hz
  clear hz
  go_wp2_with fail
  refine (commit_time.calls m5 true _ HT.out).mono ?_
  rintro e' w2 ⟨rfl, hd⟩
  clear hcx0 hfx0 hcx1 hfx1 hcx2 hfx2 hcx3 hfx3
  clear hcm0 hcm1 hcm2 hcm3 hcm4 hcm5
  clear hcz0 hfz0 hcz1 hfz1 hcz2 hfz2 hcz3 hfz3
  have HX2 := Aside0.mk (blk_below HX1.out hd.below)
  have HM2 := Aside0.mk (blk_below HM1.out hd.below)
  have HZ2 := Aside0.mk (blk_below HZ1.out hd.below)
  have HB2 := Aside0.mk (below_then HB1.out HB1.out.size hd.below)
  clear HX1 HM1 HZ1 HB1
  clear hd
  have hx := HX2.out
  obtain ⟨hcx0, hcx1, hcx2, hcx3⟩ := cz4 hx
  obtain ⟨hfx0, hfx1, hfx2, hfx3⟩ := fz4 hx
  clear hx
  have hm := HM2.out
  obtain ⟨hcm0, hcm1, hcm2, hcm3, hcm4, hcm5, -, -⟩ := cz8 hm
  clear hm
  have hz := HZ2.out
  obtain ⟨hcz0, hcz1, hcz2, hcz3⟩ := cz4 hz
  obtain ⟨hfz0, hfz1, hfz2, hfz3⟩ := fz4 hz
  clear hz
  go_wp2
  clear hcx0 hfx0 hcx1 hfx1 hcx2 hfx2 hcx3 hfx3
  clear hcm0 hcm1 hcm2 hcm3 hcm4 hcm5
  clear hcz0 hfz0 hcz1 hfz1 hcz2 hfz2 hcz3 hfz3
  refine start_ (n := 6) (S := fun w' => w'.cell? ⟨w.heap.size, 0, none⟩ = some (.int .i64 e) ∧ w'.cell? ⟨w.heap.size, 1, none⟩ = some (.int .i64 s) ∧ w'.cell? ⟨w.heap.size, 2, none⟩ = some (.int .i64 st) ∧ w'.cell? ⟨w.heap.size, 3, none⟩ = some (.int .i64 ap)) (ds := [4]) #[false, false, false, false, false, false] (by kernel_rfl) rfl rfl ⟨(blk_cell (show w2.drew.heap[w.heap.size]? = _ from HX2.out) 0).trans rfl, (blk_cell (show w2.drew.heap[w.heap.size]? = _ from HX2.out) 1).trans rfl, (blk_cell (show w2.drew.heap[w.heap.size]? = _ from HX2.out) 2).trans rfl, (blk_cell (show w2.drew.heap[w.heap.size]? = _ from HX2.out) 3).trans rfl⟩ (fun hHeld => ?_)
  refine take_ (i := 0) (N := some 39) (v := ?_) (a' := ?_) (bs 6 1) rfl rfl (by kernel_rfl) (fun _ _ _ h => h) (Or.inl ⟨by rfl, ?_⟩) hHeld ?_ ?_
  rotate_left
  · rintro w' ⟨s0, s1, s2, s3⟩
    go_simp
    with_reducible rfl
  rotate_left
  · simp only [Act.put, sA, sB, sC, i64_w, i32_w]
    rfl
  refine take_ (i := 1) (N := some 40) (v := ?_) (a' := ?_) (bs 6 3) rfl rfl (by kernel_rfl) (fun _ _ _ h => h) (Or.inl ⟨by rfl, ?_⟩) hHeld ?_ ?_
  rotate_left
  · rintro w' ⟨s0, s1, s2, s3⟩
    go_simp
    with_reducible rfl
  rotate_left
  · simp only [Act.put, sA, sB, sC, i64_w, i32_w]
    rfl
  refine pure_ (i := 2) (N := some 41) (v := ?_) (a' := ?_) (bs 6 7) rfl rfl (by kernel_rfl) (fun _ _ _ h => h) (Or.inl ⟨by rfl, ?_⟩) ?_ ?_
  rotate_left
  · intro w'
    go_simp
    with_reducible rfl
  rotate_left
  · simp only [Act.put, sA, sB, sC, i64_w, i32_w]
    rfl
  refine one_ (i := 3) (N := some 42) (bs 6 15) rfl rfl (by kernel_rfl) (by decide) (fun K hK => ?_)
  refine goes_ Try.func57 (by kernel_rfl) rfl #[.agg #[.int .i64 e, .int .i64 s, .int .i64 st, .int .i64 ap], .int .i64 12, .int .i64 0] (by rfl) rfl rfl (by simp only [List.map_toArray, List.map_cons, List.map_nil]; rfl) ?_
  refine (commit_target_message.calls e s st ap 12 0 _ _ rfl).mono ?_
  rintro e' w9 ⟨v9, rfl, hR, hb⟩
  refine ⟨_, rfl, ?_⟩
  have HX9 := Aside0.mk (blk_below (show w2.drew.heap[w.heap.size]? = _ from HX2.out) hb)
  have HZ9 := Aside0.mk (blk_below (show w2.drew.heap[w.heap.size + 1 + 1]? = _ from HZ2.out) hb)
  have HB9 := Aside0.mk (below_then (below_drew1 HB2.out) (below_drew1 HB2.out).size hb)
  have HR9 := Aside0.mk (Kd.R_lower hR (below_drew1 HB2.out).size)
  clear hb hR
  refine hK.out _ _ ⟨(blk_cell HX9.out 0).trans rfl, (blk_cell HX9.out 1).trans rfl, (blk_cell HX9.out 2).trans rfl, (blk_cell HX9.out 3).trans rfl⟩ (fun hHeld => ?_)
  clear hK K
  refine norm_ (a' := ?_) ?_ ?_
  rotate_left
  · show Act.put _ (some 42) _ = _
    simp only [Act.put, sA, sB, sC, i64_w, i32_w]
    rfl
  refine last_ (i := 4) (N := none) (bs 6 31) rfl rfl (by kernel_rfl) (by decide) (fun K hK => ?_)
  have hz := HZ9.out
  obtain ⟨hcz0, hcz1, hcz2, hcz3⟩ := cz4 hz
  obtain ⟨hfz0, hfz1, hfz2, hfz3⟩ := fz4 hz
  clear hz
  refine skip_ (w1 := ?_) (by rfl) rfl ?_ ?_
  rotate_left
  · go_simp
    rfl
  refine hK.out _ _ ?_
  clear hK K
  refine pure_ (i := 5) (N := some 5) (v := ?_) (a' := ?_) (bs 6 63) rfl rfl (by kernel_rfl) (fun _ _ _ h => h) (Or.inl ⟨by rfl, ?_⟩) ?_ ?_
  rotate_left
  · intro w'
    go_simp
    with_reducible rfl
  rotate_left
  · simp only [Act.put, sA, sB, sC, i64_w, i32_w]
    rfl
  refine done_ (by kernel_rfl) ?_
  go_wp2
  refine bodyPost_ret (results_ct rfl _ _ (w.heap.size + 1 + 1) 26 #[.int .i64 e, .int .i64 s, .int .i64 st, .int .i64 ap] (0, 0) _ rfl (blk_put4 HZ9.out) Try.underlying26 rfl (by kernel_rfl)) rfl ?_
  exact ⟨_, rfl, r_set4 HR9.out HZ9.out (by decide), below_set4 HB9.out hgz⟩
set_option maxHeartbeats 16000000 in
set_option maxRecDepth 100000 in
theorem answer_eq8 (k : Nat) (e s st ap : Int) (m0 m1 m2 m3 m4 m5 : Int) (q6 q7 : Value) (w : World) (h : commit_CheckTarget.f k e s st ap = some 0) (h1 : m2 = s) (ht : commit_time.f m5 = some true) (hk : m0 = 8) (h3 : m5 = e) :
    Calls Try.prog 35 #[.agg #[.int .i64 e, .int .i64 s, .int .i64 st, .int .i64 ap], .agg #[.int .i64 m0, .int .i64 m1, .int .i64 m2, .int .i64 m3, .int .i64 m4, .int .i64 m5, q6, q7]] w fun e' w' => ∃ v4_ : Value, e' = .returned (.tuple #[.agg #[.int .i64 e, .int .i64 s, .int .i64 st, .int .i64 ap], v4_]) ∧ Kd.R k53 53 w' w.heap.size (fun _ => True) v4_ [(⟨9, s, 0, 0, st, e, (), ()⟩ : S53)] ∧ Below w.heap.size w w' := by
  have hu26 := Try.underlying26
  have hu53 := Try.underlying53
  have hu88 := Try.underlying88
  have hn1 : (m2 != s) = false := by rw [h1]; exact bne_self_eq_false s
  have hk1 : (m0 != 8) = false := by rw [hk]; rfl
  have hd3 : decide (m5 < e) = false := decide_eq_false (by omega)
  have hd4 : decide (e < m5) = false := decide_eq_false (by omega)
  have H := Aside0.mk h
  clear h
  have H1 := Aside0.mk h1
  clear h1
  have HT := Aside0.mk ht
  clear ht
  have HK := Aside0.mk hk
  clear hk
  have H3 := Aside0.mk h3
  clear h3
  have hgz : w.heap.size ≤ w.heap.size + 1 + 1 := by omega
  go_enter Try.func35, Try.ntmps35
  go_wp2_with fail
  have hW := three_alloc26 w #[.int .i64 e, .int .i64 s, .int .i64 st, .int .i64 ap] #[.int .i64 m0, .int .i64 m1, .int .i64 m2, .int .i64 m3, .int .i64 m4, .int .i64 m5, q6, q7] #[.int .i64 0, .int .i64 0, .int .i64 0, .int .i64 0]
  generalize ((w.alloc (.cells #[.int .i64 e, .int .i64 s, .int .i64 st, .int .i64 ap] 26)).alloc (.cells #[.int .i64 m0, .int .i64 m1, .int .i64 m2, .int .i64 m3, .int .i64 m4, .int .i64 m5, q6, q7] 53)).alloc (.cells #[.int .i64 0, .int .i64 0, .int .i64 0, .int .i64 0] 26) = W at hW ⊢
  refine (commit_CheckTarget.calls k e s st ap 0 W H.out).mono ?_
  rintro e' w1 ⟨rfl, hb⟩
  have HX1 := Aside0.mk (blk_below hW.1 hb)
  have HM1 := Aside0.mk (blk_below hW.2.1 hb)
  have HZ1 := Aside0.mk (blk_below hW.2.2.1 hb)
  have HB1 := Aside0.mk (below_then hW.2.2.2 hW.2.2.2.size hb)
  clear hb hW
  have hx := HX1.out
  obtain ⟨hcx0, hcx1, hcx2, hcx3⟩ := cz4 hx
  obtain ⟨hfx0, hfx1, hfx2, hfx3⟩ := fz4 hx
  clear hx
  have hm := HM1.out
  obtain ⟨hcm0, hcm1, hcm2, hcm3, hcm4, hcm5, -, -⟩ := cz8 hm
  clear hm
  have hz := HZ1.out
  obtain ⟨hcz0, hcz1, hcz2, hcz3⟩ := cz4 hz
  obtain ⟨hfz0, hfz1, hfz2, hfz3⟩ := fz4 hz
  clear hz
  go_wp2_with fail
  refine (commit_time.calls m5 true _ HT.out).mono ?_
  rintro e' w2 ⟨rfl, hd⟩
  clear hcx0 hfx0 hcx1 hfx1 hcx2 hfx2 hcx3 hfx3
  clear hcm0 hcm1 hcm2 hcm3 hcm4 hcm5
  clear hcz0 hfz0 hcz1 hfz1 hcz2 hfz2 hcz3 hfz3
  have HX2 := Aside0.mk (blk_below HX1.out hd.below)
  have HM2 := Aside0.mk (blk_below HM1.out hd.below)
  have HZ2 := Aside0.mk (blk_below HZ1.out hd.below)
  have HB2 := Aside0.mk (below_then HB1.out HB1.out.size hd.below)
  clear HX1 HM1 HZ1 HB1
  clear hd
  have hx := HX2.out
  obtain ⟨hcx0, hcx1, hcx2, hcx3⟩ := cz4 hx
  obtain ⟨hfx0, hfx1, hfx2, hfx3⟩ := fz4 hx
  clear hx
  have hm := HM2.out
  obtain ⟨hcm0, hcm1, hcm2, hcm3, hcm4, hcm5, -, -⟩ := cz8 hm
  clear hm
  have hz := HZ2.out
  obtain ⟨hcz0, hcz1, hcz2, hcz3⟩ := cz4 hz
  obtain ⟨hfz0, hfz1, hfz2, hfz3⟩ := fz4 hz
  clear hz
  go_upto_region 8 with (fail)
  clear hcx0 hfx0 hcx1 hfx1 hcx2 hfx2 hcx3 hfx3
  clear hcm0 hcm1 hcm2 hcm3 hcm4 hcm5
  clear hcz0 hfz0 hcz1 hfz1 hcz2 hfz2 hcz3 hfz3
  have hx8 := blk_alloc HX2.out (.cells #[.int .i64 e, .int .i64 s, .int .i64 st, .int .i64 ap] 88)
  have hm8 := blk_alloc HM2.out (.cells #[.int .i64 e, .int .i64 s, .int .i64 st, .int .i64 ap] 88)
  have hz8 := blk_alloc HZ2.out (.cells #[.int .i64 e, .int .i64 s, .int .i64 st, .int .i64 ap] 88)
  have hb8 := below_alloc HB2.out (.cells #[.int .i64 e, .int .i64 s, .int .i64 st, .int .i64 ap] 88)
  have ht8 : (w2.alloc (.cells #[.int .i64 e, .int .i64 s, .int .i64 st, .int .i64 ap] 88)).heap[w2.heap.size]? = some (.cells #[.int .i64 e, .int .i64 s, .int .i64 st, .int .i64 ap] 88 (0, 0)) := blk_new w2 (.cells #[.int .i64 e, .int .i64 s, .int .i64 st, .int .i64 ap] 88)
  generalize hg : w2.heap.size = g at ht8 ⊢
  generalize (w2.alloc (.cells #[.int .i64 e, .int .i64 s, .int .i64 st, .int .i64 ap] 88)) = W7 at hx8 hm8 hz8 hb8 ht8 ⊢
  have HX8 := Aside0.mk (show W7.drew.heap[w.heap.size]? = _ from hx8)
  have HM8 := Aside0.mk (show W7.drew.heap[w.heap.size + 1]? = _ from hm8)
  have HZ8 := Aside0.mk (show W7.drew.heap[w.heap.size + 1 + 1]? = _ from hz8)
  have HB8 := Aside0.mk (below_drew1 hb8)
  have HT8 := Aside0.mk (show W7.drew.heap[g]? = _ from ht8)
  have HHG := Aside0.mk hg
  clear hx8 hm8 hz8 hb8 ht8 hg
  refine start_ (n := 15) (S := fun w' => w'.cell? ⟨w.heap.size, 0, none⟩ = some (.int .i64 e) ∧ w'.cell? ⟨w.heap.size, 1, none⟩ = some (.int .i64 s) ∧ w'.cell? ⟨w.heap.size, 2, none⟩ = some (.int .i64 st) ∧ w'.cell? ⟨w.heap.size, 3, none⟩ = some (.int .i64 ap) ∧ w'.cell? ⟨g, 0, none⟩ = some (.int .i64 e) ∧ w'.cell? ⟨g, 1, none⟩ = some (.int .i64 s) ∧ w'.cell? ⟨g, 2, none⟩ = some (.int .i64 st) ∧ w'.cell? ⟨g, 3, none⟩ = some (.int .i64 ap) ∧ w'.cell? ⟨w.heap.size + 1, 0, none⟩ = some (.int .i64 m0)) (ds := [13]) #[false, false, false, false, false, false, false, false, false, false, false, false, false, false, false] (by kernel_rfl) rfl rfl (ct4 HX8.out ⟨(blk_cell HT8.out 0).trans rfl, (blk_cell HT8.out 1).trans rfl, (blk_cell HT8.out 2).trans rfl, (blk_cell HT8.out 3).trans rfl, (blk_cell HM8.out 0).trans rfl⟩) (fun hHeld => ?_)
  refine pure_ (i := 9) (N := some 63) (v := ?_) (a' := ?_) (bs 15 512) rfl rfl (by kernel_rfl) (fun _ _ _ h => h) (Or.inl ⟨by rfl, ?_⟩) ?_ ?_
  rotate_left
  · intro w'
    go_simp
    with_reducible rfl
  rotate_left
  · simp only [Act.put, sA, sB, sC, i64_w, i32_w]
    rfl
  refine take_ (i := 0) (N := some 56) (v := ?_) (a' := ?_) (bs 15 513) rfl rfl (by kernel_rfl) (fun _ _ _ h => h) (Or.inl ⟨by rfl, ?_⟩) hHeld ?_ ?_
  rotate_left
  · rintro w' ⟨s0, s1, s2, s3, s4, s5, s6, s7, s8⟩
    go_simp
    with_reducible rfl
  rotate_left
  · simp only [Act.put, sA, sB, sC, i64_w, i32_w]
    rfl
  refine take_ (i := 2) (N := some 58) (v := ?_) (a' := ?_) (bs 15 517) rfl rfl (by kernel_rfl) (fun _ _ _ h => h) (Or.inl ⟨by rfl, ?_⟩) hHeld ?_ ?_
  rotate_left
  · rintro w' ⟨s0, s1, s2, s3, s4, s5, s6, s7, s8⟩
    go_simp
    with_reducible rfl
  rotate_left
  · simp only [Act.put, sA, sB, sC, i64_w, i32_w]
    rfl
  refine pure_ (i := 3) (N := some 59) (v := ?_) (a' := ?_) (bs 15 525) rfl rfl (by kernel_rfl) (fun _ _ _ h => h) (Or.inl ⟨by rfl, ?_⟩) ?_ ?_
  rotate_left
  · intro w'
    go_simp
    with_reducible rfl
  rotate_left
  · simp only [Act.put, sA, sB, sC, i64_w, i32_w]
    rfl
  refine take_ (i := 5) (N := some 60) (v := ?_) (a' := ?_) (bs 15 557) rfl rfl (by kernel_rfl) (fun _ _ _ h => h) (Or.inl ⟨by rfl, ?_⟩) hHeld ?_ ?_
  rotate_left
  · rintro w' ⟨s0, s1, s2, s3, s4, s5, s6, s7, s8⟩
    go_simp
    with_reducible rfl
  rotate_left
  · simp only [Act.put, sA, sB, sC, i64_w, i32_w]
    rfl
  refine pure_ (i := 6) (N := some 61) (v := ?_) (a' := ?_) (bs 15 621) rfl rfl (by kernel_rfl) (fun _ _ _ h => h) (Or.inl ⟨by rfl, ?_⟩) ?_ ?_
  rotate_left
  · intro w'
    go_simp
    with_reducible rfl
  rotate_left
  · simp only [Act.put, sA, sB, sC, i64_w, i32_w]
    rfl
  refine take_ (i := 10) (N := some 64) (v := ?_) (a' := ?_) (bs 15 1645) rfl rfl (by kernel_rfl) (fun _ _ _ h => h) (Or.inl ⟨by rfl, ?_⟩) hHeld ?_ ?_
  rotate_left
  · rintro w' ⟨s0, s1, s2, s3, s4, s5, s6, s7, s8⟩
    go_simp
    with_reducible rfl
  rotate_left
  · simp only [Act.put, sA, sB, sC, i64_w, i32_w]
    rfl
  refine one_ (i := 1) (N := some 57) (bs 15 1647) rfl rfl (by kernel_rfl) (by decide) (fun K hK => ?_)
  refine value_ (w1 := W7.drew.alloc (.map #[] 0)) (v := .map (some W7.drew.heap.size)) (by rfl) rfl ?_ ?_
  · first | (go_simp; done) | (go_simp; rfl) | (simp [execOp, run_makeMap]; done)
  have HP := Aside0.mk (MapKept.heap_alloc W7.drew (.map #[] 0)).1
  have HG := Aside0.mk (World.grownBy.refl (W7.drew.alloc (.map #[] 0)) (some W7.drew.heap.size))
  refine hK.out _ _ ⟨(blk_cell (blk_below HX8.out (map_below HG.out)) 0).trans rfl, (blk_cell (blk_below HX8.out (map_below HG.out)) 1).trans rfl, (blk_cell (blk_below HX8.out (map_below HG.out)) 2).trans rfl, (blk_cell (blk_below HX8.out (map_below HG.out)) 3).trans rfl, (blk_cell (blk_below HT8.out (map_below HG.out)) 0).trans rfl, (blk_cell (blk_below HT8.out (map_below HG.out)) 1).trans rfl, (blk_cell (blk_below HT8.out (map_below HG.out)) 2).trans rfl, (blk_cell (blk_below HT8.out (map_below HG.out)) 3).trans rfl, (blk_cell (blk_below HM8.out (map_below HG.out)) 0).trans rfl⟩ (fun hHeld => ?_)
  clear hK K
  refine norm_ (a' := ?_) ?_ ?_
  rotate_left
  · show Act.put _ (some 57) _ = _
    simp only [Act.put, sA, sB, sC, i64_w, i32_w]
    rfl
  refine two_ (i := 4) (j := 7) (Ni := none) (Nj := none) #[true, true, true, true, true, true, true, false, false, true, true, false, false, false, false] #[true, true, true, true, false, true, true, true, false, true, true, false, false, false, false] rfl rfl rfl rfl (by kernel_rfl) (by decide) (by decide) (fun K hK => ?_) (fun K hK => ?_)
  · skip
    refine insert_ (by rfl) rfl (.tmp 57) (.const (.int .i64 8)) (.tmp 59) 92 rfl Try.underlying92 Try.underlying3 W7.drew.heap.size #[] 0 8 (.func (.func 54) #[.agg #[.int .i64 e, .int .i64 s, .int .i64 st, .int .i64 ap]] #[]) rfl rfl rfl HP.out rfl ?_
    intro w' hp hg
    have HG' := Aside0.mk (HG.out.trans hg)
    have HP' := Aside0.mk hp
    clear HP HG hp hg
    have HP := HP'
    have HG := HG'
    clear HP' HG'
    refine hK.out _ _ ⟨(blk_cell (blk_below HX8.out (map_below HG.out)) 0).trans rfl, (blk_cell (blk_below HX8.out (map_below HG.out)) 1).trans rfl, (blk_cell (blk_below HX8.out (map_below HG.out)) 2).trans rfl, (blk_cell (blk_below HX8.out (map_below HG.out)) 3).trans rfl, (blk_cell (blk_below HT8.out (map_below HG.out)) 0).trans rfl, (blk_cell (blk_below HT8.out (map_below HG.out)) 1).trans rfl, (blk_cell (blk_below HT8.out (map_below HG.out)) 2).trans rfl, (blk_cell (blk_below HT8.out (map_below HG.out)) 3).trans rfl, (blk_cell (blk_below HM8.out (map_below HG.out)) 0).trans rfl⟩ (fun hHeld => ?_)
    clear hK K
    refine one_ (i := 7) (N := none) (bs 15 1791) rfl rfl (by kernel_rfl) (by decide) (fun K hK => ?_)
    refine insert_ (by rfl) rfl (.tmp 57) (.const (.int .i64 10)) (.tmp 61) 92 rfl Try.underlying92 Try.underlying3 W7.drew.heap.size #[⟨.int .i64 8, .func (.func 54) #[.agg #[.int .i64 e, .int .i64 s, .int .i64 st, .int .i64 ap]] #[], 0⟩] 1 10 (.func (.func 56) #[.agg #[.int .i64 e, .int .i64 s, .int .i64 st, .int .i64 ap]] #[]) rfl rfl rfl HP.out rfl ?_
    intro w' hp hg
    have HG' := Aside0.mk (HG.out.trans hg)
    have HP' := Aside0.mk hp
    clear HP HG hp hg
    have HP := HP'
    have HG := HG'
    clear HP' HG'
    refine hK.out _ _ ⟨(blk_cell (blk_below HX8.out (map_below HG.out)) 0).trans rfl, (blk_cell (blk_below HX8.out (map_below HG.out)) 1).trans rfl, (blk_cell (blk_below HX8.out (map_below HG.out)) 2).trans rfl, (blk_cell (blk_below HX8.out (map_below HG.out)) 3).trans rfl, (blk_cell (blk_below HT8.out (map_below HG.out)) 0).trans rfl, (blk_cell (blk_below HT8.out (map_below HG.out)) 1).trans rfl, (blk_cell (blk_below HT8.out (map_below HG.out)) 2).trans rfl, (blk_cell (blk_below HT8.out (map_below HG.out)) 3).trans rfl, (blk_cell (blk_below HM8.out (map_below HG.out)) 0).trans rfl⟩ (fun hHeld => ?_)
    clear hK K
    refine pure_ (i := 8) (N := some 62) (v := ?_) (a' := ?_) (bs 15 2047) rfl rfl (by kernel_rfl) (fun _ _ _ h => h) (Or.inl ⟨by rfl, ?_⟩) ?_ ?_
    rotate_left
    · intro w'
      go_simp
      with_reducible rfl
    rotate_left
    · simp only [Act.put, sA, sB, sC, i64_w, i32_w]
      rfl
    refine one_ (i := 11) (N := some 65) (bs 15 4095) rfl rfl (by kernel_rfl) (by decide) (fun K hK => ?_)
    refine look_ (by rfl) rfl (.tmp 62) (.tmp 64) 92 rfl Try.underlying92 Try.underlying3 W7.drew.heap.size #[⟨.int .i64 8, .func (.func 54) #[.agg #[.int .i64 e, .int .i64 s, .int .i64 st, .int .i64 ap]] #[], 0⟩, ⟨.int .i64 10, .func (.func 56) #[.agg #[.int .i64 e, .int .i64 s, .int .i64 st, .int .i64 ap]] #[], 1⟩] 2 m0 0 (.func (.func 54) #[.agg #[.int .i64 e, .int .i64 s, .int .i64 st, .int .i64 ap]] #[]) rfl rfl HP.out (by rw [HK.out]; rfl) ?_
    refine hK.out _ _ ⟨(blk_cell (blk_below HX8.out (map_below HG.out)) 0).trans rfl, (blk_cell (blk_below HX8.out (map_below HG.out)) 1).trans rfl, (blk_cell (blk_below HX8.out (map_below HG.out)) 2).trans rfl, (blk_cell (blk_below HX8.out (map_below HG.out)) 3).trans rfl, (blk_cell (blk_below HT8.out (map_below HG.out)) 0).trans rfl, (blk_cell (blk_below HT8.out (map_below HG.out)) 1).trans rfl, (blk_cell (blk_below HT8.out (map_below HG.out)) 2).trans rfl, (blk_cell (blk_below HT8.out (map_below HG.out)) 3).trans rfl, (blk_cell (blk_below HM8.out (map_below HG.out)) 0).trans rfl⟩ (fun hHeld => ?_)
    clear hK K
    refine norm_ (a' := ?_) ?_ ?_
    rotate_left
    · show Act.put _ (some 65) _ = _
      simp only [Act.put, sA, sB, sC, i64_w, i32_w]
      rfl
    refine one_ (i := 12) (N := some 66) (bs 15 8191) rfl rfl (by kernel_rfl) (by decide) (fun K hK => ?_)
    refine goesV_ (f := 54) (fn := Try.f54) (by kernel_rfl) rfl (by kernel_rfl) #[.agg #[.int .i64 e, .int .i64 s, .int .i64 st, .int .i64 ap]] 65 (by rfl) rfl rfl rfl ?_
    refine (commit_target_offered.calls e s st ap _ _ rfl).mono ?_
    rintro e' w9 ⟨v9, rfl, hR, hb⟩
    refine ⟨_, rfl, ?_⟩
    have HB7 := Aside0.mk (below_then HB8.out HB8.out.size (map_below HG.out))
    have HX9 := Aside0.mk (blk_below (blk_below HX8.out (map_below HG.out)) hb)
    have HT9 := Aside0.mk (blk_below (blk_below HT8.out (map_below HG.out)) hb)
    have HM9 := Aside0.mk (blk_below (blk_below HM8.out (map_below HG.out)) hb)
    have HZ9 := Aside0.mk (blk_below (blk_below HZ8.out (map_below HG.out)) hb)
    have HB9 := Aside0.mk (below_then HB7.out HB7.out.size hb)
    have HR9 := Aside0.mk (Kd.R_lower hR HB7.out.size)
    clear hb hR
    refine hK.out _ _ (ct4 HX9.out ⟨(blk_cell HT9.out 0).trans rfl, (blk_cell HT9.out 1).trans rfl, (blk_cell HT9.out 2).trans rfl, (blk_cell HT9.out 3).trans rfl, (blk_cell HM9.out 0).trans rfl⟩) (fun hHeld => ?_)
    clear hK K
    refine norm_ (a' := ?_) ?_ ?_
    rotate_left
    · show Act.put _ (some 66) _ = _
      simp only [Act.put, sA, sB, sC, i64_w, i32_w]
      rfl
    refine last_ (i := 13) (N := none) (bs 15 16383) rfl rfl (by kernel_rfl) (by decide) (fun K hK => ?_)
    have hz := HZ9.out
    obtain ⟨hcz0, hcz1, hcz2, hcz3⟩ := cz4 hz
    obtain ⟨hfz0, hfz1, hfz2, hfz3⟩ := fz4 hz
    clear hz
    refine skip_ (w1 := ?_) (by rfl) rfl ?_ ?_
    rotate_left
    · go_simp
      rfl
    refine hK.out _ _ ?_
    clear hK K
    refine pure_ (i := 14) (N := some 5) (v := ?_) (a' := ?_) (bs 15 32767) rfl rfl (by kernel_rfl) (fun _ _ _ h => h) (Or.inl ⟨by rfl, ?_⟩) ?_ ?_
    rotate_left
    · intro w'
      go_simp
      with_reducible rfl
    rotate_left
    · simp only [Act.put, sA, sB, sC, i64_w, i32_w]
      rfl
    refine done_ (by kernel_rfl) ?_
    go_wp2
    refine bodyPost_ret (results_ct rfl _ _ (w.heap.size + 1 + 1) 26 #[.int .i64 e, .int .i64 s, .int .i64 st, .int .i64 ap] (0, 0) _ rfl (blk_put4 HZ9.out) Try.underlying26 rfl (by kernel_rfl)) rfl ?_
    exact ⟨_, rfl, r_set4 HR9.out HZ9.out (by decide), below_set4 HB9.out hgz⟩
  · skip
    refine insert_ (by rfl) rfl (.tmp 57) (.const (.int .i64 10)) (.tmp 61) 92 rfl Try.underlying92 Try.underlying3 W7.drew.heap.size #[] 0 10 (.func (.func 56) #[.agg #[.int .i64 e, .int .i64 s, .int .i64 st, .int .i64 ap]] #[]) rfl rfl rfl HP.out rfl ?_
    intro w' hp hg
    have HG' := Aside0.mk (HG.out.trans hg)
    have HP' := Aside0.mk hp
    clear HP HG hp hg
    have HP := HP'
    have HG := HG'
    clear HP' HG'
    refine hK.out _ _ ⟨(blk_cell (blk_below HX8.out (map_below HG.out)) 0).trans rfl, (blk_cell (blk_below HX8.out (map_below HG.out)) 1).trans rfl, (blk_cell (blk_below HX8.out (map_below HG.out)) 2).trans rfl, (blk_cell (blk_below HX8.out (map_below HG.out)) 3).trans rfl, (blk_cell (blk_below HT8.out (map_below HG.out)) 0).trans rfl, (blk_cell (blk_below HT8.out (map_below HG.out)) 1).trans rfl, (blk_cell (blk_below HT8.out (map_below HG.out)) 2).trans rfl, (blk_cell (blk_below HT8.out (map_below HG.out)) 3).trans rfl, (blk_cell (blk_below HM8.out (map_below HG.out)) 0).trans rfl⟩ (fun hHeld => ?_)
    clear hK K
    refine one_ (i := 4) (N := none) (bs 15 1791) rfl rfl (by kernel_rfl) (by decide) (fun K hK => ?_)
    refine insert_ (by rfl) rfl (.tmp 57) (.const (.int .i64 8)) (.tmp 59) 92 rfl Try.underlying92 Try.underlying3 W7.drew.heap.size #[⟨.int .i64 10, .func (.func 56) #[.agg #[.int .i64 e, .int .i64 s, .int .i64 st, .int .i64 ap]] #[], 0⟩] 1 8 (.func (.func 54) #[.agg #[.int .i64 e, .int .i64 s, .int .i64 st, .int .i64 ap]] #[]) rfl rfl rfl HP.out rfl ?_
    intro w' hp hg
    have HG' := Aside0.mk (HG.out.trans hg)
    have HP' := Aside0.mk hp
    clear HP HG hp hg
    have HP := HP'
    have HG := HG'
    clear HP' HG'
    refine hK.out _ _ ⟨(blk_cell (blk_below HX8.out (map_below HG.out)) 0).trans rfl, (blk_cell (blk_below HX8.out (map_below HG.out)) 1).trans rfl, (blk_cell (blk_below HX8.out (map_below HG.out)) 2).trans rfl, (blk_cell (blk_below HX8.out (map_below HG.out)) 3).trans rfl, (blk_cell (blk_below HT8.out (map_below HG.out)) 0).trans rfl, (blk_cell (blk_below HT8.out (map_below HG.out)) 1).trans rfl, (blk_cell (blk_below HT8.out (map_below HG.out)) 2).trans rfl, (blk_cell (blk_below HT8.out (map_below HG.out)) 3).trans rfl, (blk_cell (blk_below HM8.out (map_below HG.out)) 0).trans rfl⟩ (fun hHeld => ?_)
    clear hK K
    refine pure_ (i := 8) (N := some 62) (v := ?_) (a' := ?_) (bs 15 2047) rfl rfl (by kernel_rfl) (fun _ _ _ h => h) (Or.inl ⟨by rfl, ?_⟩) ?_ ?_
    rotate_left
    · intro w'
      go_simp
      with_reducible rfl
    rotate_left
    · simp only [Act.put, sA, sB, sC, i64_w, i32_w]
      rfl
    refine one_ (i := 11) (N := some 65) (bs 15 4095) rfl rfl (by kernel_rfl) (by decide) (fun K hK => ?_)
    refine look_ (by rfl) rfl (.tmp 62) (.tmp 64) 92 rfl Try.underlying92 Try.underlying3 W7.drew.heap.size #[⟨.int .i64 10, .func (.func 56) #[.agg #[.int .i64 e, .int .i64 s, .int .i64 st, .int .i64 ap]] #[], 0⟩, ⟨.int .i64 8, .func (.func 54) #[.agg #[.int .i64 e, .int .i64 s, .int .i64 st, .int .i64 ap]] #[], 1⟩] 2 m0 1 (.func (.func 54) #[.agg #[.int .i64 e, .int .i64 s, .int .i64 st, .int .i64 ap]] #[]) rfl rfl HP.out (by rw [HK.out]; rfl) ?_
    refine hK.out _ _ ⟨(blk_cell (blk_below HX8.out (map_below HG.out)) 0).trans rfl, (blk_cell (blk_below HX8.out (map_below HG.out)) 1).trans rfl, (blk_cell (blk_below HX8.out (map_below HG.out)) 2).trans rfl, (blk_cell (blk_below HX8.out (map_below HG.out)) 3).trans rfl, (blk_cell (blk_below HT8.out (map_below HG.out)) 0).trans rfl, (blk_cell (blk_below HT8.out (map_below HG.out)) 1).trans rfl, (blk_cell (blk_below HT8.out (map_below HG.out)) 2).trans rfl, (blk_cell (blk_below HT8.out (map_below HG.out)) 3).trans rfl, (blk_cell (blk_below HM8.out (map_below HG.out)) 0).trans rfl⟩ (fun hHeld => ?_)
    clear hK K
    refine norm_ (a' := ?_) ?_ ?_
    rotate_left
    · show Act.put _ (some 65) _ = _
      simp only [Act.put, sA, sB, sC, i64_w, i32_w]
      rfl
    refine one_ (i := 12) (N := some 66) (bs 15 8191) rfl rfl (by kernel_rfl) (by decide) (fun K hK => ?_)
    refine goesV_ (f := 54) (fn := Try.f54) (by kernel_rfl) rfl (by kernel_rfl) #[.agg #[.int .i64 e, .int .i64 s, .int .i64 st, .int .i64 ap]] 65 (by rfl) rfl rfl rfl ?_
    refine (commit_target_offered.calls e s st ap _ _ rfl).mono ?_
    rintro e' w9 ⟨v9, rfl, hR, hb⟩
    refine ⟨_, rfl, ?_⟩
    have HB7 := Aside0.mk (below_then HB8.out HB8.out.size (map_below HG.out))
    have HX9 := Aside0.mk (blk_below (blk_below HX8.out (map_below HG.out)) hb)
    have HT9 := Aside0.mk (blk_below (blk_below HT8.out (map_below HG.out)) hb)
    have HM9 := Aside0.mk (blk_below (blk_below HM8.out (map_below HG.out)) hb)
    have HZ9 := Aside0.mk (blk_below (blk_below HZ8.out (map_below HG.out)) hb)
    have HB9 := Aside0.mk (below_then HB7.out HB7.out.size hb)
    have HR9 := Aside0.mk (Kd.R_lower hR HB7.out.size)
    clear hb hR
    refine hK.out _ _ (ct4 HX9.out ⟨(blk_cell HT9.out 0).trans rfl, (blk_cell HT9.out 1).trans rfl, (blk_cell HT9.out 2).trans rfl, (blk_cell HT9.out 3).trans rfl, (blk_cell HM9.out 0).trans rfl⟩) (fun hHeld => ?_)
    clear hK K
    refine norm_ (a' := ?_) ?_ ?_
    rotate_left
    · show Act.put _ (some 66) _ = _
      simp only [Act.put, sA, sB, sC, i64_w, i32_w]
      rfl
    refine last_ (i := 13) (N := none) (bs 15 16383) rfl rfl (by kernel_rfl) (by decide) (fun K hK => ?_)
    have hz := HZ9.out
    obtain ⟨hcz0, hcz1, hcz2, hcz3⟩ := cz4 hz
    obtain ⟨hfz0, hfz1, hfz2, hfz3⟩ := fz4 hz
    clear hz
    refine skip_ (w1 := ?_) (by rfl) rfl ?_ ?_
    rotate_left
    · go_simp
      rfl
    refine hK.out _ _ ?_
    clear hK K
    refine pure_ (i := 14) (N := some 5) (v := ?_) (a' := ?_) (bs 15 32767) rfl rfl (by kernel_rfl) (fun _ _ _ h => h) (Or.inl ⟨by rfl, ?_⟩) ?_ ?_
    rotate_left
    · intro w'
      go_simp
      with_reducible rfl
    rotate_left
    · simp only [Act.put, sA, sB, sC, i64_w, i32_w]
      rfl
    refine done_ (by kernel_rfl) ?_
    go_wp2
    refine bodyPost_ret (results_ct rfl _ _ (w.heap.size + 1 + 1) 26 #[.int .i64 e, .int .i64 s, .int .i64 st, .int .i64 ap] (0, 0) _ rfl (blk_put4 HZ9.out) Try.underlying26 rfl (by kernel_rfl)) rfl ?_
    exact ⟨_, rfl, r_set4 HR9.out HZ9.out (by decide), below_set4 HB9.out hgz⟩
set_option maxHeartbeats 16000000 in
set_option maxRecDepth 100000 in
theorem answer_gt8 (k : Nat) (e s st ap : Int) (m0 m1 m2 m3 m4 m5 : Int) (q6 q7 : Value) (w : World) (h : commit_CheckTarget.f k e s st ap = some 0) (h1 : m2 = s) (ht : commit_time.f m5 = some true) (hk : m0 = 8) (h3 : e < m5) :
    Calls Try.prog 35 #[.agg #[.int .i64 e, .int .i64 s, .int .i64 st, .int .i64 ap], .agg #[.int .i64 m0, .int .i64 m1, .int .i64 m2, .int .i64 m3, .int .i64 m4, .int .i64 m5, q6, q7]] w fun e' w' => ∃ v4_ : Value, e' = .returned (.tuple #[.agg #[.int .i64 m5, .int .i64 s, .int .i64 ap, .int .i64 ap], v4_]) ∧ Kd.R k53 53 w' w.heap.size (fun _ => True) v4_ [(⟨9, s, 0, 0, ap, m5, (), ()⟩ : S53)] ∧ Below w.heap.size w w' := by
  have hu26 := Try.underlying26
  have hu53 := Try.underlying53
  have hu88 := Try.underlying88
  have hn1 : (m2 != s) = false := by rw [h1]; exact bne_self_eq_false s
  have hk1 : (m0 != 8) = false := by rw [hk]; rfl
  have hd3 : decide (m5 < e) = false := decide_eq_false (by omega)
  have hd4 : decide (e < m5) = true := decide_eq_true h3
  have H := Aside0.mk h
  clear h
  have H1 := Aside0.mk h1
  clear h1
  have HT := Aside0.mk ht
  clear ht
  have HK := Aside0.mk hk
  clear hk
  have H3 := Aside0.mk h3
  clear h3
  have hgz : w.heap.size ≤ w.heap.size + 1 + 1 := by omega
  go_enter Try.func35, Try.ntmps35
  go_wp2_with fail
  have hW := three_alloc26 w #[.int .i64 e, .int .i64 s, .int .i64 st, .int .i64 ap] #[.int .i64 m0, .int .i64 m1, .int .i64 m2, .int .i64 m3, .int .i64 m4, .int .i64 m5, q6, q7] #[.int .i64 0, .int .i64 0, .int .i64 0, .int .i64 0]
  generalize ((w.alloc (.cells #[.int .i64 e, .int .i64 s, .int .i64 st, .int .i64 ap] 26)).alloc (.cells #[.int .i64 m0, .int .i64 m1, .int .i64 m2, .int .i64 m3, .int .i64 m4, .int .i64 m5, q6, q7] 53)).alloc (.cells #[.int .i64 0, .int .i64 0, .int .i64 0, .int .i64 0] 26) = W at hW ⊢
  refine (commit_CheckTarget.calls k e s st ap 0 W H.out).mono ?_
  rintro e' w1 ⟨rfl, hb⟩
  have HX1 := Aside0.mk (blk_below hW.1 hb)
  have HM1 := Aside0.mk (blk_below hW.2.1 hb)
  have HZ1 := Aside0.mk (blk_below hW.2.2.1 hb)
  have HB1 := Aside0.mk (below_then hW.2.2.2 hW.2.2.2.size hb)
  clear hb hW
  have hx := HX1.out
  obtain ⟨hcx0, hcx1, hcx2, hcx3⟩ := cz4 hx
  obtain ⟨hfx0, hfx1, hfx2, hfx3⟩ := fz4 hx
  clear hx
  have hm := HM1.out
  obtain ⟨hcm0, hcm1, hcm2, hcm3, hcm4, hcm5, -, -⟩ := cz8 hm
  clear hm
  have hz := HZ1.out
  obtain ⟨hcz0, hcz1, hcz2, hcz3⟩ := cz4 hz
  obtain ⟨hfz0, hfz1, hfz2, hfz3⟩ := fz4 hz
  clear hz
  go_wp2_with fail
  refine (commit_time.calls m5 true _ HT.out).mono ?_
  rintro e' w2 ⟨rfl, hd⟩
  clear hcx0 hfx0 hcx1 hfx1 hcx2 hfx2 hcx3 hfx3
  clear hcm0 hcm1 hcm2 hcm3 hcm4 hcm5
  clear hcz0 hfz0 hcz1 hfz1 hcz2 hfz2 hcz3 hfz3
  have HX2 := Aside0.mk (blk_below HX1.out hd.below)
  have HM2 := Aside0.mk (blk_below HM1.out hd.below)
  have HZ2 := Aside0.mk (blk_below HZ1.out hd.below)
  have HB2 := Aside0.mk (below_then HB1.out HB1.out.size hd.below)
  clear HX1 HM1 HZ1 HB1
  clear hd
  have hx := HX2.out
  obtain ⟨hcx0, hcx1, hcx2, hcx3⟩ := cz4 hx
  obtain ⟨hfx0, hfx1, hfx2, hfx3⟩ := fz4 hx
  clear hx
  have hm := HM2.out
  obtain ⟨hcm0, hcm1, hcm2, hcm3, hcm4, hcm5, -, -⟩ := cz8 hm
  clear hm
  have hz := HZ2.out
  obtain ⟨hcz0, hcz1, hcz2, hcz3⟩ := cz4 hz
  obtain ⟨hfz0, hfz1, hfz2, hfz3⟩ := fz4 hz
  clear hz
  have hx6 : ((w2.setCell ⟨w.heap.size, 0, none⟩ (.int .i64 m5)).setCell ⟨w.heap.size, 2, none⟩ (.int .i64 ap)).heap[w.heap.size]? = some (.cells #[.int .i64 m5, .int .i64 s, .int .i64 ap, .int .i64 ap] 26 (0, 0)) := blk_put (blk_put HX2.out 0 _ rfl) 2 _ rfl
  have hm6 : ((w2.setCell ⟨w.heap.size, 0, none⟩ (.int .i64 m5)).setCell ⟨w.heap.size, 2, none⟩ (.int .i64 ap)).heap[w.heap.size + 1]? = _ := blk_far (blk_far HM2.out (p := ⟨w.heap.size, 0, none⟩) (by show w.heap.size + 1 ≠ w.heap.size; omega) (.int .i64 m5)) (p := ⟨w.heap.size, 2, none⟩) (by show w.heap.size + 1 ≠ w.heap.size; omega) (.int .i64 ap)
  have hz6 : ((w2.setCell ⟨w.heap.size, 0, none⟩ (.int .i64 m5)).setCell ⟨w.heap.size, 2, none⟩ (.int .i64 ap)).heap[w.heap.size + 1 + 1]? = _ := blk_far (blk_far HZ2.out (p := ⟨w.heap.size, 0, none⟩) (by show w.heap.size + 1 + 1 ≠ w.heap.size; omega) (.int .i64 m5)) (p := ⟨w.heap.size, 2, none⟩) (by show w.heap.size + 1 + 1 ≠ w.heap.size; omega) (.int .i64 ap)
  have hb6 : Below w.heap.size w ((w2.setCell ⟨w.heap.size, 0, none⟩ (.int .i64 m5)).setCell ⟨w.heap.size, 2, none⟩ (.int .i64 ap)) := below_set (below_set HB2.out (Nat.le_refl _)) (Nat.le_refl _)
  have HX6 := Aside0.mk hx6
  have HM6 := Aside0.mk hm6
  have HZ6 := Aside0.mk hz6
  have HB6 := Aside0.mk hb6
  clear hx6 hm6 hz6 hb6
  go_upto_region 8 with (fail)
  clear hcx0 hfx0 hcx1 hfx1 hcx2 hfx2 hcx3 hfx3
  clear hcm0 hcm1 hcm2 hcm3 hcm4 hcm5
  clear hcz0 hfz0 hcz1 hfz1 hcz2 hfz2 hcz3 hfz3
  have hx8 := blk_alloc HX6.out (.cells #[.int .i64 m5, .int .i64 s, .int .i64 ap, .int .i64 ap] 88)
  have hm8 := blk_alloc HM6.out (.cells #[.int .i64 m5, .int .i64 s, .int .i64 ap, .int .i64 ap] 88)
  have hz8 := blk_alloc HZ6.out (.cells #[.int .i64 m5, .int .i64 s, .int .i64 ap, .int .i64 ap] 88)
  have hb8 := below_alloc HB6.out (.cells #[.int .i64 m5, .int .i64 s, .int .i64 ap, .int .i64 ap] 88)
  have ht8 : (((w2.setCell ⟨w.heap.size, 0, none⟩ (.int .i64 m5)).setCell ⟨w.heap.size, 2, none⟩ (.int .i64 ap)).alloc (.cells #[.int .i64 m5, .int .i64 s, .int .i64 ap, .int .i64 ap] 88)).heap[w2.heap.size]? = some (.cells #[.int .i64 m5, .int .i64 s, .int .i64 ap, .int .i64 ap] 88 (0, 0)) := by have h := blk_new ((w2.setCell ⟨w.heap.size, 0, none⟩ (.int .i64 m5)).setCell ⟨w.heap.size, 2, none⟩ (.int .i64 ap)) (.cells #[.int .i64 m5, .int .i64 s, .int .i64 ap, .int .i64 ap] 88); simp only [World.size_setCell] at h; exact h
  generalize hg : w2.heap.size = g at ht8 ⊢
  generalize (((w2.setCell ⟨w.heap.size, 0, none⟩ (.int .i64 m5)).setCell ⟨w.heap.size, 2, none⟩ (.int .i64 ap)).alloc (.cells #[.int .i64 m5, .int .i64 s, .int .i64 ap, .int .i64 ap] 88)) = W7 at hx8 hm8 hz8 hb8 ht8 ⊢
  have HX8 := Aside0.mk (show W7.drew.heap[w.heap.size]? = _ from hx8)
  have HM8 := Aside0.mk (show W7.drew.heap[w.heap.size + 1]? = _ from hm8)
  have HZ8 := Aside0.mk (show W7.drew.heap[w.heap.size + 1 + 1]? = _ from hz8)
  have HB8 := Aside0.mk (below_drew1 hb8)
  have HT8 := Aside0.mk (show W7.drew.heap[g]? = _ from ht8)
  have HHG := Aside0.mk hg
  clear hx8 hm8 hz8 hb8 ht8 hg
  refine start_ (n := 15) (S := fun w' => w'.cell? ⟨w.heap.size, 0, none⟩ = some (.int .i64 m5) ∧ w'.cell? ⟨w.heap.size, 1, none⟩ = some (.int .i64 s) ∧ w'.cell? ⟨w.heap.size, 2, none⟩ = some (.int .i64 ap) ∧ w'.cell? ⟨w.heap.size, 3, none⟩ = some (.int .i64 ap) ∧ w'.cell? ⟨g, 0, none⟩ = some (.int .i64 m5) ∧ w'.cell? ⟨g, 1, none⟩ = some (.int .i64 s) ∧ w'.cell? ⟨g, 2, none⟩ = some (.int .i64 ap) ∧ w'.cell? ⟨g, 3, none⟩ = some (.int .i64 ap) ∧ w'.cell? ⟨w.heap.size + 1, 0, none⟩ = some (.int .i64 m0)) (ds := [13]) #[false, false, false, false, false, false, false, false, false, false, false, false, false, false, false] (by kernel_rfl) rfl rfl (ct4 HX8.out ⟨(blk_cell HT8.out 0).trans rfl, (blk_cell HT8.out 1).trans rfl, (blk_cell HT8.out 2).trans rfl, (blk_cell HT8.out 3).trans rfl, (blk_cell HM8.out 0).trans rfl⟩) (fun hHeld => ?_)
  refine pure_ (i := 9) (N := some 63) (v := ?_) (a' := ?_) (bs 15 512) rfl rfl (by kernel_rfl) (fun _ _ _ h => h) (Or.inl ⟨by rfl, ?_⟩) ?_ ?_
  rotate_left
  · intro w'
    go_simp
    with_reducible rfl
  rotate_left
  · simp only [Act.put, sA, sB, sC, i64_w, i32_w]
    rfl
  refine take_ (i := 0) (N := some 56) (v := ?_) (a' := ?_) (bs 15 513) rfl rfl (by kernel_rfl) (fun _ _ _ h => h) (Or.inl ⟨by rfl, ?_⟩) hHeld ?_ ?_
  rotate_left
  · rintro w' ⟨s0, s1, s2, s3, s4, s5, s6, s7, s8⟩
    go_simp
    with_reducible rfl
  rotate_left
  · simp only [Act.put, sA, sB, sC, i64_w, i32_w]
    rfl
  refine take_ (i := 2) (N := some 58) (v := ?_) (a' := ?_) (bs 15 517) rfl rfl (by kernel_rfl) (fun _ _ _ h => h) (Or.inl ⟨by rfl, ?_⟩) hHeld ?_ ?_
  rotate_left
  · rintro w' ⟨s0, s1, s2, s3, s4, s5, s6, s7, s8⟩
    go_simp
    with_reducible rfl
  rotate_left
  · simp only [Act.put, sA, sB, sC, i64_w, i32_w]
    rfl
  refine pure_ (i := 3) (N := some 59) (v := ?_) (a' := ?_) (bs 15 525) rfl rfl (by kernel_rfl) (fun _ _ _ h => h) (Or.inl ⟨by rfl, ?_⟩) ?_ ?_
  rotate_left
  · intro w'
    go_simp
    with_reducible rfl
  rotate_left
  · simp only [Act.put, sA, sB, sC, i64_w, i32_w]
    rfl
  refine take_ (i := 5) (N := some 60) (v := ?_) (a' := ?_) (bs 15 557) rfl rfl (by kernel_rfl) (fun _ _ _ h => h) (Or.inl ⟨by rfl, ?_⟩) hHeld ?_ ?_
  rotate_left
  · rintro w' ⟨s0, s1, s2, s3, s4, s5, s6, s7, s8⟩
    go_simp
    with_reducible rfl
  rotate_left
  · simp only [Act.put, sA, sB, sC, i64_w, i32_w]
    rfl
  refine pure_ (i := 6) (N := some 61) (v := ?_) (a' := ?_) (bs 15 621) rfl rfl (by kernel_rfl) (fun _ _ _ h => h) (Or.inl ⟨by rfl, ?_⟩) ?_ ?_
  rotate_left
  · intro w'
    go_simp
    with_reducible rfl
  rotate_left
  · simp only [Act.put, sA, sB, sC, i64_w, i32_w]
    rfl
  refine take_ (i := 10) (N := some 64) (v := ?_) (a' := ?_) (bs 15 1645) rfl rfl (by kernel_rfl) (fun _ _ _ h => h) (Or.inl ⟨by rfl, ?_⟩) hHeld ?_ ?_
  rotate_left
  · rintro w' ⟨s0, s1, s2, s3, s4, s5, s6, s7, s8⟩
    go_simp
    with_reducible rfl
  rotate_left
  · simp only [Act.put, sA, sB, sC, i64_w, i32_w]
    rfl
  refine one_ (i := 1) (N := some 57) (bs 15 1647) rfl rfl (by kernel_rfl) (by decide) (fun K hK => ?_)
  refine value_ (w1 := W7.drew.alloc (.map #[] 0)) (v := .map (some W7.drew.heap.size)) (by rfl) rfl ?_ ?_
  · first | (go_simp; done) | (go_simp; rfl) | (simp [execOp, run_makeMap]; done)
  have HP := Aside0.mk (MapKept.heap_alloc W7.drew (.map #[] 0)).1
  have HG := Aside0.mk (World.grownBy.refl (W7.drew.alloc (.map #[] 0)) (some W7.drew.heap.size))
  refine hK.out _ _ ⟨(blk_cell (blk_below HX8.out (map_below HG.out)) 0).trans rfl, (blk_cell (blk_below HX8.out (map_below HG.out)) 1).trans rfl, (blk_cell (blk_below HX8.out (map_below HG.out)) 2).trans rfl, (blk_cell (blk_below HX8.out (map_below HG.out)) 3).trans rfl, (blk_cell (blk_below HT8.out (map_below HG.out)) 0).trans rfl, (blk_cell (blk_below HT8.out (map_below HG.out)) 1).trans rfl, (blk_cell (blk_below HT8.out (map_below HG.out)) 2).trans rfl, (blk_cell (blk_below HT8.out (map_below HG.out)) 3).trans rfl, (blk_cell (blk_below HM8.out (map_below HG.out)) 0).trans rfl⟩ (fun hHeld => ?_)
  clear hK K
  refine norm_ (a' := ?_) ?_ ?_
  rotate_left
  · show Act.put _ (some 57) _ = _
    simp only [Act.put, sA, sB, sC, i64_w, i32_w]
    rfl
  refine two_ (i := 4) (j := 7) (Ni := none) (Nj := none) #[true, true, true, true, true, true, true, false, false, true, true, false, false, false, false] #[true, true, true, true, false, true, true, true, false, true, true, false, false, false, false] rfl rfl rfl rfl (by kernel_rfl) (by decide) (by decide) (fun K hK => ?_) (fun K hK => ?_)
  · skip
    refine insert_ (by rfl) rfl (.tmp 57) (.const (.int .i64 8)) (.tmp 59) 92 rfl Try.underlying92 Try.underlying3 W7.drew.heap.size #[] 0 8 (.func (.func 54) #[.agg #[.int .i64 m5, .int .i64 s, .int .i64 ap, .int .i64 ap]] #[]) rfl rfl rfl HP.out rfl ?_
    intro w' hp hg
    have HG' := Aside0.mk (HG.out.trans hg)
    have HP' := Aside0.mk hp
    clear HP HG hp hg
    have HP := HP'
    have HG := HG'
    clear HP' HG'
    refine hK.out _ _ ⟨(blk_cell (blk_below HX8.out (map_below HG.out)) 0).trans rfl, (blk_cell (blk_below HX8.out (map_below HG.out)) 1).trans rfl, (blk_cell (blk_below HX8.out (map_below HG.out)) 2).trans rfl, (blk_cell (blk_below HX8.out (map_below HG.out)) 3).trans rfl, (blk_cell (blk_below HT8.out (map_below HG.out)) 0).trans rfl, (blk_cell (blk_below HT8.out (map_below HG.out)) 1).trans rfl, (blk_cell (blk_below HT8.out (map_below HG.out)) 2).trans rfl, (blk_cell (blk_below HT8.out (map_below HG.out)) 3).trans rfl, (blk_cell (blk_below HM8.out (map_below HG.out)) 0).trans rfl⟩ (fun hHeld => ?_)
    clear hK K
    refine one_ (i := 7) (N := none) (bs 15 1791) rfl rfl (by kernel_rfl) (by decide) (fun K hK => ?_)
    refine insert_ (by rfl) rfl (.tmp 57) (.const (.int .i64 10)) (.tmp 61) 92 rfl Try.underlying92 Try.underlying3 W7.drew.heap.size #[⟨.int .i64 8, .func (.func 54) #[.agg #[.int .i64 m5, .int .i64 s, .int .i64 ap, .int .i64 ap]] #[], 0⟩] 1 10 (.func (.func 56) #[.agg #[.int .i64 m5, .int .i64 s, .int .i64 ap, .int .i64 ap]] #[]) rfl rfl rfl HP.out rfl ?_
    intro w' hp hg
    have HG' := Aside0.mk (HG.out.trans hg)
    have HP' := Aside0.mk hp
    clear HP HG hp hg
    have HP := HP'
    have HG := HG'
    clear HP' HG'
    refine hK.out _ _ ⟨(blk_cell (blk_below HX8.out (map_below HG.out)) 0).trans rfl, (blk_cell (blk_below HX8.out (map_below HG.out)) 1).trans rfl, (blk_cell (blk_below HX8.out (map_below HG.out)) 2).trans rfl, (blk_cell (blk_below HX8.out (map_below HG.out)) 3).trans rfl, (blk_cell (blk_below HT8.out (map_below HG.out)) 0).trans rfl, (blk_cell (blk_below HT8.out (map_below HG.out)) 1).trans rfl, (blk_cell (blk_below HT8.out (map_below HG.out)) 2).trans rfl, (blk_cell (blk_below HT8.out (map_below HG.out)) 3).trans rfl, (blk_cell (blk_below HM8.out (map_below HG.out)) 0).trans rfl⟩ (fun hHeld => ?_)
    clear hK K
    refine pure_ (i := 8) (N := some 62) (v := ?_) (a' := ?_) (bs 15 2047) rfl rfl (by kernel_rfl) (fun _ _ _ h => h) (Or.inl ⟨by rfl, ?_⟩) ?_ ?_
    rotate_left
    · intro w'
      go_simp
      with_reducible rfl
    rotate_left
    · simp only [Act.put, sA, sB, sC, i64_w, i32_w]
      rfl
    refine one_ (i := 11) (N := some 65) (bs 15 4095) rfl rfl (by kernel_rfl) (by decide) (fun K hK => ?_)
    refine look_ (by rfl) rfl (.tmp 62) (.tmp 64) 92 rfl Try.underlying92 Try.underlying3 W7.drew.heap.size #[⟨.int .i64 8, .func (.func 54) #[.agg #[.int .i64 m5, .int .i64 s, .int .i64 ap, .int .i64 ap]] #[], 0⟩, ⟨.int .i64 10, .func (.func 56) #[.agg #[.int .i64 m5, .int .i64 s, .int .i64 ap, .int .i64 ap]] #[], 1⟩] 2 m0 0 (.func (.func 54) #[.agg #[.int .i64 m5, .int .i64 s, .int .i64 ap, .int .i64 ap]] #[]) rfl rfl HP.out (by rw [HK.out]; rfl) ?_
    refine hK.out _ _ ⟨(blk_cell (blk_below HX8.out (map_below HG.out)) 0).trans rfl, (blk_cell (blk_below HX8.out (map_below HG.out)) 1).trans rfl, (blk_cell (blk_below HX8.out (map_below HG.out)) 2).trans rfl, (blk_cell (blk_below HX8.out (map_below HG.out)) 3).trans rfl, (blk_cell (blk_below HT8.out (map_below HG.out)) 0).trans rfl, (blk_cell (blk_below HT8.out (map_below HG.out)) 1).trans rfl, (blk_cell (blk_below HT8.out (map_below HG.out)) 2).trans rfl, (blk_cell (blk_below HT8.out (map_below HG.out)) 3).trans rfl, (blk_cell (blk_below HM8.out (map_below HG.out)) 0).trans rfl⟩ (fun hHeld => ?_)
    clear hK K
    refine norm_ (a' := ?_) ?_ ?_
    rotate_left
    · show Act.put _ (some 65) _ = _
      simp only [Act.put, sA, sB, sC, i64_w, i32_w]
      rfl
    refine one_ (i := 12) (N := some 66) (bs 15 8191) rfl rfl (by kernel_rfl) (by decide) (fun K hK => ?_)
    refine goesV_ (f := 54) (fn := Try.f54) (by kernel_rfl) rfl (by kernel_rfl) #[.agg #[.int .i64 m5, .int .i64 s, .int .i64 ap, .int .i64 ap]] 65 (by rfl) rfl rfl rfl ?_
    refine (commit_target_offered.calls m5 s ap ap _ _ rfl).mono ?_
    rintro e' w9 ⟨v9, rfl, hR, hb⟩
    refine ⟨_, rfl, ?_⟩
    have HB7 := Aside0.mk (below_then HB8.out HB8.out.size (map_below HG.out))
    have HX9 := Aside0.mk (blk_below (blk_below HX8.out (map_below HG.out)) hb)
    have HT9 := Aside0.mk (blk_below (blk_below HT8.out (map_below HG.out)) hb)
    have HM9 := Aside0.mk (blk_below (blk_below HM8.out (map_below HG.out)) hb)
    have HZ9 := Aside0.mk (blk_below (blk_below HZ8.out (map_below HG.out)) hb)
    have HB9 := Aside0.mk (below_then HB7.out HB7.out.size hb)
    have HR9 := Aside0.mk (Kd.R_lower hR HB7.out.size)
    clear hb hR
    refine hK.out _ _ (ct4 HX9.out ⟨(blk_cell HT9.out 0).trans rfl, (blk_cell HT9.out 1).trans rfl, (blk_cell HT9.out 2).trans rfl, (blk_cell HT9.out 3).trans rfl, (blk_cell HM9.out 0).trans rfl⟩) (fun hHeld => ?_)
    clear hK K
    refine norm_ (a' := ?_) ?_ ?_
    rotate_left
    · show Act.put _ (some 66) _ = _
      simp only [Act.put, sA, sB, sC, i64_w, i32_w]
      rfl
    refine last_ (i := 13) (N := none) (bs 15 16383) rfl rfl (by kernel_rfl) (by decide) (fun K hK => ?_)
    have hz := HZ9.out
    obtain ⟨hcz0, hcz1, hcz2, hcz3⟩ := cz4 hz
    obtain ⟨hfz0, hfz1, hfz2, hfz3⟩ := fz4 hz
    clear hz
    refine skip_ (w1 := ?_) (by rfl) rfl ?_ ?_
    rotate_left
    · go_simp
      rfl
    refine hK.out _ _ ?_
    clear hK K
    refine pure_ (i := 14) (N := some 5) (v := ?_) (a' := ?_) (bs 15 32767) rfl rfl (by kernel_rfl) (fun _ _ _ h => h) (Or.inl ⟨by rfl, ?_⟩) ?_ ?_
    rotate_left
    · intro w'
      go_simp
      with_reducible rfl
    rotate_left
    · simp only [Act.put, sA, sB, sC, i64_w, i32_w]
      rfl
    refine done_ (by kernel_rfl) ?_
    go_wp2
    refine bodyPost_ret (results_ct rfl _ _ (w.heap.size + 1 + 1) 26 #[.int .i64 m5, .int .i64 s, .int .i64 ap, .int .i64 ap] (0, 0) _ rfl (blk_put4 HZ9.out) Try.underlying26 rfl (by kernel_rfl)) rfl ?_
    exact ⟨_, rfl, r_set4 HR9.out HZ9.out (by decide), below_set4 HB9.out hgz⟩
  · skip
    refine insert_ (by rfl) rfl (.tmp 57) (.const (.int .i64 10)) (.tmp 61) 92 rfl Try.underlying92 Try.underlying3 W7.drew.heap.size #[] 0 10 (.func (.func 56) #[.agg #[.int .i64 m5, .int .i64 s, .int .i64 ap, .int .i64 ap]] #[]) rfl rfl rfl HP.out rfl ?_
    intro w' hp hg
    have HG' := Aside0.mk (HG.out.trans hg)
    have HP' := Aside0.mk hp
    clear HP HG hp hg
    have HP := HP'
    have HG := HG'
    clear HP' HG'
    refine hK.out _ _ ⟨(blk_cell (blk_below HX8.out (map_below HG.out)) 0).trans rfl, (blk_cell (blk_below HX8.out (map_below HG.out)) 1).trans rfl, (blk_cell (blk_below HX8.out (map_below HG.out)) 2).trans rfl, (blk_cell (blk_below HX8.out (map_below HG.out)) 3).trans rfl, (blk_cell (blk_below HT8.out (map_below HG.out)) 0).trans rfl, (blk_cell (blk_below HT8.out (map_below HG.out)) 1).trans rfl, (blk_cell (blk_below HT8.out (map_below HG.out)) 2).trans rfl, (blk_cell (blk_below HT8.out (map_below HG.out)) 3).trans rfl, (blk_cell (blk_below HM8.out (map_below HG.out)) 0).trans rfl⟩ (fun hHeld => ?_)
    clear hK K
    refine one_ (i := 4) (N := none) (bs 15 1791) rfl rfl (by kernel_rfl) (by decide) (fun K hK => ?_)
    refine insert_ (by rfl) rfl (.tmp 57) (.const (.int .i64 8)) (.tmp 59) 92 rfl Try.underlying92 Try.underlying3 W7.drew.heap.size #[⟨.int .i64 10, .func (.func 56) #[.agg #[.int .i64 m5, .int .i64 s, .int .i64 ap, .int .i64 ap]] #[], 0⟩] 1 8 (.func (.func 54) #[.agg #[.int .i64 m5, .int .i64 s, .int .i64 ap, .int .i64 ap]] #[]) rfl rfl rfl HP.out rfl ?_
    intro w' hp hg
    have HG' := Aside0.mk (HG.out.trans hg)
    have HP' := Aside0.mk hp
    clear HP HG hp hg
    have HP := HP'
    have HG := HG'
    clear HP' HG'
    refine hK.out _ _ ⟨(blk_cell (blk_below HX8.out (map_below HG.out)) 0).trans rfl, (blk_cell (blk_below HX8.out (map_below HG.out)) 1).trans rfl, (blk_cell (blk_below HX8.out (map_below HG.out)) 2).trans rfl, (blk_cell (blk_below HX8.out (map_below HG.out)) 3).trans rfl, (blk_cell (blk_below HT8.out (map_below HG.out)) 0).trans rfl, (blk_cell (blk_below HT8.out (map_below HG.out)) 1).trans rfl, (blk_cell (blk_below HT8.out (map_below HG.out)) 2).trans rfl, (blk_cell (blk_below HT8.out (map_below HG.out)) 3).trans rfl, (blk_cell (blk_below HM8.out (map_below HG.out)) 0).trans rfl⟩ (fun hHeld => ?_)
    clear hK K
    refine pure_ (i := 8) (N := some 62) (v := ?_) (a' := ?_) (bs 15 2047) rfl rfl (by kernel_rfl) (fun _ _ _ h => h) (Or.inl ⟨by rfl, ?_⟩) ?_ ?_
    rotate_left
    · intro w'
      go_simp
      with_reducible rfl
    rotate_left
    · simp only [Act.put, sA, sB, sC, i64_w, i32_w]
      rfl
    refine one_ (i := 11) (N := some 65) (bs 15 4095) rfl rfl (by kernel_rfl) (by decide) (fun K hK => ?_)
    refine look_ (by rfl) rfl (.tmp 62) (.tmp 64) 92 rfl Try.underlying92 Try.underlying3 W7.drew.heap.size #[⟨.int .i64 10, .func (.func 56) #[.agg #[.int .i64 m5, .int .i64 s, .int .i64 ap, .int .i64 ap]] #[], 0⟩, ⟨.int .i64 8, .func (.func 54) #[.agg #[.int .i64 m5, .int .i64 s, .int .i64 ap, .int .i64 ap]] #[], 1⟩] 2 m0 1 (.func (.func 54) #[.agg #[.int .i64 m5, .int .i64 s, .int .i64 ap, .int .i64 ap]] #[]) rfl rfl HP.out (by rw [HK.out]; rfl) ?_
    refine hK.out _ _ ⟨(blk_cell (blk_below HX8.out (map_below HG.out)) 0).trans rfl, (blk_cell (blk_below HX8.out (map_below HG.out)) 1).trans rfl, (blk_cell (blk_below HX8.out (map_below HG.out)) 2).trans rfl, (blk_cell (blk_below HX8.out (map_below HG.out)) 3).trans rfl, (blk_cell (blk_below HT8.out (map_below HG.out)) 0).trans rfl, (blk_cell (blk_below HT8.out (map_below HG.out)) 1).trans rfl, (blk_cell (blk_below HT8.out (map_below HG.out)) 2).trans rfl, (blk_cell (blk_below HT8.out (map_below HG.out)) 3).trans rfl, (blk_cell (blk_below HM8.out (map_below HG.out)) 0).trans rfl⟩ (fun hHeld => ?_)
    clear hK K
    refine norm_ (a' := ?_) ?_ ?_
    rotate_left
    · show Act.put _ (some 65) _ = _
      simp only [Act.put, sA, sB, sC, i64_w, i32_w]
      rfl
    refine one_ (i := 12) (N := some 66) (bs 15 8191) rfl rfl (by kernel_rfl) (by decide) (fun K hK => ?_)
    refine goesV_ (f := 54) (fn := Try.f54) (by kernel_rfl) rfl (by kernel_rfl) #[.agg #[.int .i64 m5, .int .i64 s, .int .i64 ap, .int .i64 ap]] 65 (by rfl) rfl rfl rfl ?_
    refine (commit_target_offered.calls m5 s ap ap _ _ rfl).mono ?_
    rintro e' w9 ⟨v9, rfl, hR, hb⟩
    refine ⟨_, rfl, ?_⟩
    have HB7 := Aside0.mk (below_then HB8.out HB8.out.size (map_below HG.out))
    have HX9 := Aside0.mk (blk_below (blk_below HX8.out (map_below HG.out)) hb)
    have HT9 := Aside0.mk (blk_below (blk_below HT8.out (map_below HG.out)) hb)
    have HM9 := Aside0.mk (blk_below (blk_below HM8.out (map_below HG.out)) hb)
    have HZ9 := Aside0.mk (blk_below (blk_below HZ8.out (map_below HG.out)) hb)
    have HB9 := Aside0.mk (below_then HB7.out HB7.out.size hb)
    have HR9 := Aside0.mk (Kd.R_lower hR HB7.out.size)
    clear hb hR
    refine hK.out _ _ (ct4 HX9.out ⟨(blk_cell HT9.out 0).trans rfl, (blk_cell HT9.out 1).trans rfl, (blk_cell HT9.out 2).trans rfl, (blk_cell HT9.out 3).trans rfl, (blk_cell HM9.out 0).trans rfl⟩) (fun hHeld => ?_)
    clear hK K
    refine norm_ (a' := ?_) ?_ ?_
    rotate_left
    · show Act.put _ (some 66) _ = _
      simp only [Act.put, sA, sB, sC, i64_w, i32_w]
      rfl
    refine last_ (i := 13) (N := none) (bs 15 16383) rfl rfl (by kernel_rfl) (by decide) (fun K hK => ?_)
    have hz := HZ9.out
    obtain ⟨hcz0, hcz1, hcz2, hcz3⟩ := cz4 hz
    obtain ⟨hfz0, hfz1, hfz2, hfz3⟩ := fz4 hz
    clear hz
    refine skip_ (w1 := ?_) (by rfl) rfl ?_ ?_
    rotate_left
    · go_simp
      rfl
    refine hK.out _ _ ?_
    clear hK K
    refine pure_ (i := 14) (N := some 5) (v := ?_) (a' := ?_) (bs 15 32767) rfl rfl (by kernel_rfl) (fun _ _ _ h => h) (Or.inl ⟨by rfl, ?_⟩) ?_ ?_
    rotate_left
    · intro w'
      go_simp
      with_reducible rfl
    rotate_left
    · simp only [Act.put, sA, sB, sC, i64_w, i32_w]
      rfl
    refine done_ (by kernel_rfl) ?_
    go_wp2
    refine bodyPost_ret (results_ct rfl _ _ (w.heap.size + 1 + 1) 26 #[.int .i64 m5, .int .i64 s, .int .i64 ap, .int .i64 ap] (0, 0) _ rfl (blk_put4 HZ9.out) Try.underlying26 rfl (by kernel_rfl)) rfl ?_
    exact ⟨_, rfl, r_set4 HR9.out HZ9.out (by decide), below_set4 HB9.out hgz⟩
set_option maxHeartbeats 16000000 in
set_option maxRecDepth 100000 in
theorem answer_eq10 (k : Nat) (e s st ap : Int) (m0 m1 m2 m3 m4 m5 : Int) (q6 q7 : Value) (w : World) (h : commit_CheckTarget.f k e s st ap = some 0) (h1 : m2 = s) (ht : commit_time.f m5 = some true) (hk : m0 = 10) (h3 : m5 = e) :
    Calls Try.prog 35 #[.agg #[.int .i64 e, .int .i64 s, .int .i64 st, .int .i64 ap], .agg #[.int .i64 m0, .int .i64 m1, .int .i64 m2, .int .i64 m3, .int .i64 m4, .int .i64 m5, q6, q7]] w fun e' w' => ∃ v4_ : Value, e' = .returned (.tuple #[.agg #[.int .i64 e, .int .i64 s, .int .i64 st, .int .i64 ap], v4_]) ∧ Kd.R k53 53 w' w.heap.size (fun _ => True) v4_ [(⟨11, s, 0, 0, ap, e, (), ()⟩ : S53)] ∧ Below w.heap.size w w' := by
  have hu26 := Try.underlying26
  have hu53 := Try.underlying53
  have hu88 := Try.underlying88
  have hn1 : (m2 != s) = false := by rw [h1]; exact bne_self_eq_false s
  have hk1 : (m0 != 8) = true := by rw [hk]; rfl
  have hk2 : (m0 != 10) = false := by rw [hk]; rfl
  have hd3 : decide (m5 < e) = false := decide_eq_false (by omega)
  have hd4 : decide (e < m5) = false := decide_eq_false (by omega)
  have H := Aside0.mk h
  clear h
  have H1 := Aside0.mk h1
  clear h1
  have HT := Aside0.mk ht
  clear ht
  have HK := Aside0.mk hk
  clear hk
  have H3 := Aside0.mk h3
  clear h3
  have hgz : w.heap.size ≤ w.heap.size + 1 + 1 := by omega
  go_enter Try.func35, Try.ntmps35
  go_wp2_with fail
  have hW := three_alloc26 w #[.int .i64 e, .int .i64 s, .int .i64 st, .int .i64 ap] #[.int .i64 m0, .int .i64 m1, .int .i64 m2, .int .i64 m3, .int .i64 m4, .int .i64 m5, q6, q7] #[.int .i64 0, .int .i64 0, .int .i64 0, .int .i64 0]
  generalize ((w.alloc (.cells #[.int .i64 e, .int .i64 s, .int .i64 st, .int .i64 ap] 26)).alloc (.cells #[.int .i64 m0, .int .i64 m1, .int .i64 m2, .int .i64 m3, .int .i64 m4, .int .i64 m5, q6, q7] 53)).alloc (.cells #[.int .i64 0, .int .i64 0, .int .i64 0, .int .i64 0] 26) = W at hW ⊢
  refine (commit_CheckTarget.calls k e s st ap 0 W H.out).mono ?_
  rintro e' w1 ⟨rfl, hb⟩
  have HX1 := Aside0.mk (blk_below hW.1 hb)
  have HM1 := Aside0.mk (blk_below hW.2.1 hb)
  have HZ1 := Aside0.mk (blk_below hW.2.2.1 hb)
  have HB1 := Aside0.mk (below_then hW.2.2.2 hW.2.2.2.size hb)
  clear hb hW
  have hx := HX1.out
  obtain ⟨hcx0, hcx1, hcx2, hcx3⟩ := cz4 hx
  obtain ⟨hfx0, hfx1, hfx2, hfx3⟩ := fz4 hx
  clear hx
  have hm := HM1.out
  obtain ⟨hcm0, hcm1, hcm2, hcm3, hcm4, hcm5, -, -⟩ := cz8 hm
  clear hm
  have hz := HZ1.out
  obtain ⟨hcz0, hcz1, hcz2, hcz3⟩ := cz4 hz
  obtain ⟨hfz0, hfz1, hfz2, hfz3⟩ := fz4 hz
  clear hz
  go_wp2_with fail
  refine (commit_time.calls m5 true _ HT.out).mono ?_
  rintro e' w2 ⟨rfl, hd⟩
  clear hcx0 hfx0 hcx1 hfx1 hcx2 hfx2 hcx3 hfx3
  clear hcm0 hcm1 hcm2 hcm3 hcm4 hcm5
  clear hcz0 hfz0 hcz1 hfz1 hcz2 hfz2 hcz3 hfz3
  have HX2 := Aside0.mk (blk_below HX1.out hd.below)
  have HM2 := Aside0.mk (blk_below HM1.out hd.below)
  have HZ2 := Aside0.mk (blk_below HZ1.out hd.below)
  have HB2 := Aside0.mk (below_then HB1.out HB1.out.size hd.below)
  clear HX1 HM1 HZ1 HB1
  clear hd
  have hx := HX2.out
  obtain ⟨hcx0, hcx1, hcx2, hcx3⟩ := cz4 hx
  obtain ⟨hfx0, hfx1, hfx2, hfx3⟩ := fz4 hx
  clear hx
  have hm := HM2.out
  obtain ⟨hcm0, hcm1, hcm2, hcm3, hcm4, hcm5, -, -⟩ := cz8 hm
  clear hm
  have hz := HZ2.out
  obtain ⟨hcz0, hcz1, hcz2, hcz3⟩ := cz4 hz
  obtain ⟨hfz0, hfz1, hfz2, hfz3⟩ := fz4 hz
  clear hz
  go_upto_region 8 with (fail)
  clear hcx0 hfx0 hcx1 hfx1 hcx2 hfx2 hcx3 hfx3
  clear hcm0 hcm1 hcm2 hcm3 hcm4 hcm5
  clear hcz0 hfz0 hcz1 hfz1 hcz2 hfz2 hcz3 hfz3
  have hx8 := blk_alloc HX2.out (.cells #[.int .i64 e, .int .i64 s, .int .i64 st, .int .i64 ap] 88)
  have hm8 := blk_alloc HM2.out (.cells #[.int .i64 e, .int .i64 s, .int .i64 st, .int .i64 ap] 88)
  have hz8 := blk_alloc HZ2.out (.cells #[.int .i64 e, .int .i64 s, .int .i64 st, .int .i64 ap] 88)
  have hb8 := below_alloc HB2.out (.cells #[.int .i64 e, .int .i64 s, .int .i64 st, .int .i64 ap] 88)
  have ht8 : (w2.alloc (.cells #[.int .i64 e, .int .i64 s, .int .i64 st, .int .i64 ap] 88)).heap[w2.heap.size]? = some (.cells #[.int .i64 e, .int .i64 s, .int .i64 st, .int .i64 ap] 88 (0, 0)) := blk_new w2 (.cells #[.int .i64 e, .int .i64 s, .int .i64 st, .int .i64 ap] 88)
  generalize hg : w2.heap.size = g at ht8 ⊢
  generalize (w2.alloc (.cells #[.int .i64 e, .int .i64 s, .int .i64 st, .int .i64 ap] 88)) = W7 at hx8 hm8 hz8 hb8 ht8 ⊢
  have HX8 := Aside0.mk (show W7.drew.heap[w.heap.size]? = _ from hx8)
  have HM8 := Aside0.mk (show W7.drew.heap[w.heap.size + 1]? = _ from hm8)
  have HZ8 := Aside0.mk (show W7.drew.heap[w.heap.size + 1 + 1]? = _ from hz8)
  have HB8 := Aside0.mk (below_drew1 hb8)
  have HT8 := Aside0.mk (show W7.drew.heap[g]? = _ from ht8)
  have HHG := Aside0.mk hg
  clear hx8 hm8 hz8 hb8 ht8 hg
  refine start_ (n := 15) (S := fun w' => w'.cell? ⟨w.heap.size, 0, none⟩ = some (.int .i64 e) ∧ w'.cell? ⟨w.heap.size, 1, none⟩ = some (.int .i64 s) ∧ w'.cell? ⟨w.heap.size, 2, none⟩ = some (.int .i64 st) ∧ w'.cell? ⟨w.heap.size, 3, none⟩ = some (.int .i64 ap) ∧ w'.cell? ⟨g, 0, none⟩ = some (.int .i64 e) ∧ w'.cell? ⟨g, 1, none⟩ = some (.int .i64 s) ∧ w'.cell? ⟨g, 2, none⟩ = some (.int .i64 st) ∧ w'.cell? ⟨g, 3, none⟩ = some (.int .i64 ap) ∧ w'.cell? ⟨w.heap.size + 1, 0, none⟩ = some (.int .i64 m0)) (ds := [13]) #[false, false, false, false, false, false, false, false, false, false, false, false, false, false, false] (by kernel_rfl) rfl rfl (ct4 HX8.out ⟨(blk_cell HT8.out 0).trans rfl, (blk_cell HT8.out 1).trans rfl, (blk_cell HT8.out 2).trans rfl, (blk_cell HT8.out 3).trans rfl, (blk_cell HM8.out 0).trans rfl⟩) (fun hHeld => ?_)
  refine pure_ (i := 9) (N := some 63) (v := ?_) (a' := ?_) (bs 15 512) rfl rfl (by kernel_rfl) (fun _ _ _ h => h) (Or.inl ⟨by rfl, ?_⟩) ?_ ?_
  rotate_left
  · intro w'
    go_simp
    with_reducible rfl
  rotate_left
  · simp only [Act.put, sA, sB, sC, i64_w, i32_w]
    rfl
  refine take_ (i := 0) (N := some 56) (v := ?_) (a' := ?_) (bs 15 513) rfl rfl (by kernel_rfl) (fun _ _ _ h => h) (Or.inl ⟨by rfl, ?_⟩) hHeld ?_ ?_
  rotate_left
  · rintro w' ⟨s0, s1, s2, s3, s4, s5, s6, s7, s8⟩
    go_simp
    with_reducible rfl
  rotate_left
  · simp only [Act.put, sA, sB, sC, i64_w, i32_w]
    rfl
  refine take_ (i := 2) (N := some 58) (v := ?_) (a' := ?_) (bs 15 517) rfl rfl (by kernel_rfl) (fun _ _ _ h => h) (Or.inl ⟨by rfl, ?_⟩) hHeld ?_ ?_
  rotate_left
  · rintro w' ⟨s0, s1, s2, s3, s4, s5, s6, s7, s8⟩
    go_simp
    with_reducible rfl
  rotate_left
  · simp only [Act.put, sA, sB, sC, i64_w, i32_w]
    rfl
  refine pure_ (i := 3) (N := some 59) (v := ?_) (a' := ?_) (bs 15 525) rfl rfl (by kernel_rfl) (fun _ _ _ h => h) (Or.inl ⟨by rfl, ?_⟩) ?_ ?_
  rotate_left
  · intro w'
    go_simp
    with_reducible rfl
  rotate_left
  · simp only [Act.put, sA, sB, sC, i64_w, i32_w]
    rfl
  refine take_ (i := 5) (N := some 60) (v := ?_) (a' := ?_) (bs 15 557) rfl rfl (by kernel_rfl) (fun _ _ _ h => h) (Or.inl ⟨by rfl, ?_⟩) hHeld ?_ ?_
  rotate_left
  · rintro w' ⟨s0, s1, s2, s3, s4, s5, s6, s7, s8⟩
    go_simp
    with_reducible rfl
  rotate_left
  · simp only [Act.put, sA, sB, sC, i64_w, i32_w]
    rfl
  refine pure_ (i := 6) (N := some 61) (v := ?_) (a' := ?_) (bs 15 621) rfl rfl (by kernel_rfl) (fun _ _ _ h => h) (Or.inl ⟨by rfl, ?_⟩) ?_ ?_
  rotate_left
  · intro w'
    go_simp
    with_reducible rfl
  rotate_left
  · simp only [Act.put, sA, sB, sC, i64_w, i32_w]
    rfl
  refine take_ (i := 10) (N := some 64) (v := ?_) (a' := ?_) (bs 15 1645) rfl rfl (by kernel_rfl) (fun _ _ _ h => h) (Or.inl ⟨by rfl, ?_⟩) hHeld ?_ ?_
  rotate_left
  · rintro w' ⟨s0, s1, s2, s3, s4, s5, s6, s7, s8⟩
    go_simp
    with_reducible rfl
  rotate_left
  · simp only [Act.put, sA, sB, sC, i64_w, i32_w]
    rfl
  refine one_ (i := 1) (N := some 57) (bs 15 1647) rfl rfl (by kernel_rfl) (by decide) (fun K hK => ?_)
  refine value_ (w1 := W7.drew.alloc (.map #[] 0)) (v := .map (some W7.drew.heap.size)) (by rfl) rfl ?_ ?_
  · first | (go_simp; done) | (go_simp; rfl) | (simp [execOp, run_makeMap]; done)
  have HP := Aside0.mk (MapKept.heap_alloc W7.drew (.map #[] 0)).1
  have HG := Aside0.mk (World.grownBy.refl (W7.drew.alloc (.map #[] 0)) (some W7.drew.heap.size))
  refine hK.out _ _ ⟨(blk_cell (blk_below HX8.out (map_below HG.out)) 0).trans rfl, (blk_cell (blk_below HX8.out (map_below HG.out)) 1).trans rfl, (blk_cell (blk_below HX8.out (map_below HG.out)) 2).trans rfl, (blk_cell (blk_below HX8.out (map_below HG.out)) 3).trans rfl, (blk_cell (blk_below HT8.out (map_below HG.out)) 0).trans rfl, (blk_cell (blk_below HT8.out (map_below HG.out)) 1).trans rfl, (blk_cell (blk_below HT8.out (map_below HG.out)) 2).trans rfl, (blk_cell (blk_below HT8.out (map_below HG.out)) 3).trans rfl, (blk_cell (blk_below HM8.out (map_below HG.out)) 0).trans rfl⟩ (fun hHeld => ?_)
  clear hK K
  refine norm_ (a' := ?_) ?_ ?_
  rotate_left
  · show Act.put _ (some 57) _ = _
    simp only [Act.put, sA, sB, sC, i64_w, i32_w]
    rfl
  refine two_ (i := 4) (j := 7) (Ni := none) (Nj := none) #[true, true, true, true, true, true, true, false, false, true, true, false, false, false, false] #[true, true, true, true, false, true, true, true, false, true, true, false, false, false, false] rfl rfl rfl rfl (by kernel_rfl) (by decide) (by decide) (fun K hK => ?_) (fun K hK => ?_)
  · skip
    refine insert_ (by rfl) rfl (.tmp 57) (.const (.int .i64 8)) (.tmp 59) 92 rfl Try.underlying92 Try.underlying3 W7.drew.heap.size #[] 0 8 (.func (.func 54) #[.agg #[.int .i64 e, .int .i64 s, .int .i64 st, .int .i64 ap]] #[]) rfl rfl rfl HP.out rfl ?_
    intro w' hp hg
    have HG' := Aside0.mk (HG.out.trans hg)
    have HP' := Aside0.mk hp
    clear HP HG hp hg
    have HP := HP'
    have HG := HG'
    clear HP' HG'
    refine hK.out _ _ ⟨(blk_cell (blk_below HX8.out (map_below HG.out)) 0).trans rfl, (blk_cell (blk_below HX8.out (map_below HG.out)) 1).trans rfl, (blk_cell (blk_below HX8.out (map_below HG.out)) 2).trans rfl, (blk_cell (blk_below HX8.out (map_below HG.out)) 3).trans rfl, (blk_cell (blk_below HT8.out (map_below HG.out)) 0).trans rfl, (blk_cell (blk_below HT8.out (map_below HG.out)) 1).trans rfl, (blk_cell (blk_below HT8.out (map_below HG.out)) 2).trans rfl, (blk_cell (blk_below HT8.out (map_below HG.out)) 3).trans rfl, (blk_cell (blk_below HM8.out (map_below HG.out)) 0).trans rfl⟩ (fun hHeld => ?_)
    clear hK K
    refine one_ (i := 7) (N := none) (bs 15 1791) rfl rfl (by kernel_rfl) (by decide) (fun K hK => ?_)
    refine insert_ (by rfl) rfl (.tmp 57) (.const (.int .i64 10)) (.tmp 61) 92 rfl Try.underlying92 Try.underlying3 W7.drew.heap.size #[⟨.int .i64 8, .func (.func 54) #[.agg #[.int .i64 e, .int .i64 s, .int .i64 st, .int .i64 ap]] #[], 0⟩] 1 10 (.func (.func 56) #[.agg #[.int .i64 e, .int .i64 s, .int .i64 st, .int .i64 ap]] #[]) rfl rfl rfl HP.out rfl ?_
    intro w' hp hg
    have HG' := Aside0.mk (HG.out.trans hg)
    have HP' := Aside0.mk hp
    clear HP HG hp hg
    have HP := HP'
    have HG := HG'
    clear HP' HG'
    refine hK.out _ _ ⟨(blk_cell (blk_below HX8.out (map_below HG.out)) 0).trans rfl, (blk_cell (blk_below HX8.out (map_below HG.out)) 1).trans rfl, (blk_cell (blk_below HX8.out (map_below HG.out)) 2).trans rfl, (blk_cell (blk_below HX8.out (map_below HG.out)) 3).trans rfl, (blk_cell (blk_below HT8.out (map_below HG.out)) 0).trans rfl, (blk_cell (blk_below HT8.out (map_below HG.out)) 1).trans rfl, (blk_cell (blk_below HT8.out (map_below HG.out)) 2).trans rfl, (blk_cell (blk_below HT8.out (map_below HG.out)) 3).trans rfl, (blk_cell (blk_below HM8.out (map_below HG.out)) 0).trans rfl⟩ (fun hHeld => ?_)
    clear hK K
    refine pure_ (i := 8) (N := some 62) (v := ?_) (a' := ?_) (bs 15 2047) rfl rfl (by kernel_rfl) (fun _ _ _ h => h) (Or.inl ⟨by rfl, ?_⟩) ?_ ?_
    rotate_left
    · intro w'
      go_simp
      with_reducible rfl
    rotate_left
    · simp only [Act.put, sA, sB, sC, i64_w, i32_w]
      rfl
    refine one_ (i := 11) (N := some 65) (bs 15 4095) rfl rfl (by kernel_rfl) (by decide) (fun K hK => ?_)
    refine look_ (by rfl) rfl (.tmp 62) (.tmp 64) 92 rfl Try.underlying92 Try.underlying3 W7.drew.heap.size #[⟨.int .i64 8, .func (.func 54) #[.agg #[.int .i64 e, .int .i64 s, .int .i64 st, .int .i64 ap]] #[], 0⟩, ⟨.int .i64 10, .func (.func 56) #[.agg #[.int .i64 e, .int .i64 s, .int .i64 st, .int .i64 ap]] #[], 1⟩] 2 m0 1 (.func (.func 56) #[.agg #[.int .i64 e, .int .i64 s, .int .i64 st, .int .i64 ap]] #[]) rfl rfl HP.out (by rw [HK.out]; rfl) ?_
    refine hK.out _ _ ⟨(blk_cell (blk_below HX8.out (map_below HG.out)) 0).trans rfl, (blk_cell (blk_below HX8.out (map_below HG.out)) 1).trans rfl, (blk_cell (blk_below HX8.out (map_below HG.out)) 2).trans rfl, (blk_cell (blk_below HX8.out (map_below HG.out)) 3).trans rfl, (blk_cell (blk_below HT8.out (map_below HG.out)) 0).trans rfl, (blk_cell (blk_below HT8.out (map_below HG.out)) 1).trans rfl, (blk_cell (blk_below HT8.out (map_below HG.out)) 2).trans rfl, (blk_cell (blk_below HT8.out (map_below HG.out)) 3).trans rfl, (blk_cell (blk_below HM8.out (map_below HG.out)) 0).trans rfl⟩ (fun hHeld => ?_)
    clear hK K
    refine norm_ (a' := ?_) ?_ ?_
    rotate_left
    · show Act.put _ (some 65) _ = _
      simp only [Act.put, sA, sB, sC, i64_w, i32_w]
      rfl
    refine one_ (i := 12) (N := some 66) (bs 15 8191) rfl rfl (by kernel_rfl) (by decide) (fun K hK => ?_)
    refine goesV_ (f := 56) (fn := Try.f56) (by kernel_rfl) rfl (by kernel_rfl) #[.agg #[.int .i64 e, .int .i64 s, .int .i64 st, .int .i64 ap]] 65 (by rfl) rfl rfl rfl ?_
    refine (commit_target_committed.calls e s st ap _ _ rfl).mono ?_
    rintro e' w9 ⟨v9, rfl, hR, hb⟩
    refine ⟨_, rfl, ?_⟩
    have HB7 := Aside0.mk (below_then HB8.out HB8.out.size (map_below HG.out))
    have HX9 := Aside0.mk (blk_below (blk_below HX8.out (map_below HG.out)) hb)
    have HT9 := Aside0.mk (blk_below (blk_below HT8.out (map_below HG.out)) hb)
    have HM9 := Aside0.mk (blk_below (blk_below HM8.out (map_below HG.out)) hb)
    have HZ9 := Aside0.mk (blk_below (blk_below HZ8.out (map_below HG.out)) hb)
    have HB9 := Aside0.mk (below_then HB7.out HB7.out.size hb)
    have HR9 := Aside0.mk (Kd.R_lower hR HB7.out.size)
    clear hb hR
    refine hK.out _ _ (ct4 HX9.out ⟨(blk_cell HT9.out 0).trans rfl, (blk_cell HT9.out 1).trans rfl, (blk_cell HT9.out 2).trans rfl, (blk_cell HT9.out 3).trans rfl, (blk_cell HM9.out 0).trans rfl⟩) (fun hHeld => ?_)
    clear hK K
    refine norm_ (a' := ?_) ?_ ?_
    rotate_left
    · show Act.put _ (some 66) _ = _
      simp only [Act.put, sA, sB, sC, i64_w, i32_w]
      rfl
    refine last_ (i := 13) (N := none) (bs 15 16383) rfl rfl (by kernel_rfl) (by decide) (fun K hK => ?_)
    have hz := HZ9.out
    obtain ⟨hcz0, hcz1, hcz2, hcz3⟩ := cz4 hz
    obtain ⟨hfz0, hfz1, hfz2, hfz3⟩ := fz4 hz
    clear hz
    refine skip_ (w1 := ?_) (by rfl) rfl ?_ ?_
    rotate_left
    · go_simp
      rfl
    refine hK.out _ _ ?_
    clear hK K
    refine pure_ (i := 14) (N := some 5) (v := ?_) (a' := ?_) (bs 15 32767) rfl rfl (by kernel_rfl) (fun _ _ _ h => h) (Or.inl ⟨by rfl, ?_⟩) ?_ ?_
    rotate_left
    · intro w'
      go_simp
      with_reducible rfl
    rotate_left
    · simp only [Act.put, sA, sB, sC, i64_w, i32_w]
      rfl
    refine done_ (by kernel_rfl) ?_
    go_wp2
    refine bodyPost_ret (results_ct rfl _ _ (w.heap.size + 1 + 1) 26 #[.int .i64 e, .int .i64 s, .int .i64 st, .int .i64 ap] (0, 0) _ rfl (blk_put4 HZ9.out) Try.underlying26 rfl (by kernel_rfl)) rfl ?_
    exact ⟨_, rfl, r_set4 HR9.out HZ9.out (by decide), below_set4 HB9.out hgz⟩
  · skip
    refine insert_ (by rfl) rfl (.tmp 57) (.const (.int .i64 10)) (.tmp 61) 92 rfl Try.underlying92 Try.underlying3 W7.drew.heap.size #[] 0 10 (.func (.func 56) #[.agg #[.int .i64 e, .int .i64 s, .int .i64 st, .int .i64 ap]] #[]) rfl rfl rfl HP.out rfl ?_
    intro w' hp hg
    have HG' := Aside0.mk (HG.out.trans hg)
    have HP' := Aside0.mk hp
    clear HP HG hp hg
    have HP := HP'
    have HG := HG'
    clear HP' HG'
    refine hK.out _ _ ⟨(blk_cell (blk_below HX8.out (map_below HG.out)) 0).trans rfl, (blk_cell (blk_below HX8.out (map_below HG.out)) 1).trans rfl, (blk_cell (blk_below HX8.out (map_below HG.out)) 2).trans rfl, (blk_cell (blk_below HX8.out (map_below HG.out)) 3).trans rfl, (blk_cell (blk_below HT8.out (map_below HG.out)) 0).trans rfl, (blk_cell (blk_below HT8.out (map_below HG.out)) 1).trans rfl, (blk_cell (blk_below HT8.out (map_below HG.out)) 2).trans rfl, (blk_cell (blk_below HT8.out (map_below HG.out)) 3).trans rfl, (blk_cell (blk_below HM8.out (map_below HG.out)) 0).trans rfl⟩ (fun hHeld => ?_)
    clear hK K
    refine one_ (i := 4) (N := none) (bs 15 1791) rfl rfl (by kernel_rfl) (by decide) (fun K hK => ?_)
    refine insert_ (by rfl) rfl (.tmp 57) (.const (.int .i64 8)) (.tmp 59) 92 rfl Try.underlying92 Try.underlying3 W7.drew.heap.size #[⟨.int .i64 10, .func (.func 56) #[.agg #[.int .i64 e, .int .i64 s, .int .i64 st, .int .i64 ap]] #[], 0⟩] 1 8 (.func (.func 54) #[.agg #[.int .i64 e, .int .i64 s, .int .i64 st, .int .i64 ap]] #[]) rfl rfl rfl HP.out rfl ?_
    intro w' hp hg
    have HG' := Aside0.mk (HG.out.trans hg)
    have HP' := Aside0.mk hp
    clear HP HG hp hg
    have HP := HP'
    have HG := HG'
    clear HP' HG'
    refine hK.out _ _ ⟨(blk_cell (blk_below HX8.out (map_below HG.out)) 0).trans rfl, (blk_cell (blk_below HX8.out (map_below HG.out)) 1).trans rfl, (blk_cell (blk_below HX8.out (map_below HG.out)) 2).trans rfl, (blk_cell (blk_below HX8.out (map_below HG.out)) 3).trans rfl, (blk_cell (blk_below HT8.out (map_below HG.out)) 0).trans rfl, (blk_cell (blk_below HT8.out (map_below HG.out)) 1).trans rfl, (blk_cell (blk_below HT8.out (map_below HG.out)) 2).trans rfl, (blk_cell (blk_below HT8.out (map_below HG.out)) 3).trans rfl, (blk_cell (blk_below HM8.out (map_below HG.out)) 0).trans rfl⟩ (fun hHeld => ?_)
    clear hK K
    refine pure_ (i := 8) (N := some 62) (v := ?_) (a' := ?_) (bs 15 2047) rfl rfl (by kernel_rfl) (fun _ _ _ h => h) (Or.inl ⟨by rfl, ?_⟩) ?_ ?_
    rotate_left
    · intro w'
      go_simp
      with_reducible rfl
    rotate_left
    · simp only [Act.put, sA, sB, sC, i64_w, i32_w]
      rfl
    refine one_ (i := 11) (N := some 65) (bs 15 4095) rfl rfl (by kernel_rfl) (by decide) (fun K hK => ?_)
    refine look_ (by rfl) rfl (.tmp 62) (.tmp 64) 92 rfl Try.underlying92 Try.underlying3 W7.drew.heap.size #[⟨.int .i64 10, .func (.func 56) #[.agg #[.int .i64 e, .int .i64 s, .int .i64 st, .int .i64 ap]] #[], 0⟩, ⟨.int .i64 8, .func (.func 54) #[.agg #[.int .i64 e, .int .i64 s, .int .i64 st, .int .i64 ap]] #[], 1⟩] 2 m0 0 (.func (.func 56) #[.agg #[.int .i64 e, .int .i64 s, .int .i64 st, .int .i64 ap]] #[]) rfl rfl HP.out (by rw [HK.out]; rfl) ?_
    refine hK.out _ _ ⟨(blk_cell (blk_below HX8.out (map_below HG.out)) 0).trans rfl, (blk_cell (blk_below HX8.out (map_below HG.out)) 1).trans rfl, (blk_cell (blk_below HX8.out (map_below HG.out)) 2).trans rfl, (blk_cell (blk_below HX8.out (map_below HG.out)) 3).trans rfl, (blk_cell (blk_below HT8.out (map_below HG.out)) 0).trans rfl, (blk_cell (blk_below HT8.out (map_below HG.out)) 1).trans rfl, (blk_cell (blk_below HT8.out (map_below HG.out)) 2).trans rfl, (blk_cell (blk_below HT8.out (map_below HG.out)) 3).trans rfl, (blk_cell (blk_below HM8.out (map_below HG.out)) 0).trans rfl⟩ (fun hHeld => ?_)
    clear hK K
    refine norm_ (a' := ?_) ?_ ?_
    rotate_left
    · show Act.put _ (some 65) _ = _
      simp only [Act.put, sA, sB, sC, i64_w, i32_w]
      rfl
    refine one_ (i := 12) (N := some 66) (bs 15 8191) rfl rfl (by kernel_rfl) (by decide) (fun K hK => ?_)
    refine goesV_ (f := 56) (fn := Try.f56) (by kernel_rfl) rfl (by kernel_rfl) #[.agg #[.int .i64 e, .int .i64 s, .int .i64 st, .int .i64 ap]] 65 (by rfl) rfl rfl rfl ?_
    refine (commit_target_committed.calls e s st ap _ _ rfl).mono ?_
    rintro e' w9 ⟨v9, rfl, hR, hb⟩
    refine ⟨_, rfl, ?_⟩
    have HB7 := Aside0.mk (below_then HB8.out HB8.out.size (map_below HG.out))
    have HX9 := Aside0.mk (blk_below (blk_below HX8.out (map_below HG.out)) hb)
    have HT9 := Aside0.mk (blk_below (blk_below HT8.out (map_below HG.out)) hb)
    have HM9 := Aside0.mk (blk_below (blk_below HM8.out (map_below HG.out)) hb)
    have HZ9 := Aside0.mk (blk_below (blk_below HZ8.out (map_below HG.out)) hb)
    have HB9 := Aside0.mk (below_then HB7.out HB7.out.size hb)
    have HR9 := Aside0.mk (Kd.R_lower hR HB7.out.size)
    clear hb hR
    refine hK.out _ _ (ct4 HX9.out ⟨(blk_cell HT9.out 0).trans rfl, (blk_cell HT9.out 1).trans rfl, (blk_cell HT9.out 2).trans rfl, (blk_cell HT9.out 3).trans rfl, (blk_cell HM9.out 0).trans rfl⟩) (fun hHeld => ?_)
    clear hK K
    refine norm_ (a' := ?_) ?_ ?_
    rotate_left
    · show Act.put _ (some 66) _ = _
      simp only [Act.put, sA, sB, sC, i64_w, i32_w]
      rfl
    refine last_ (i := 13) (N := none) (bs 15 16383) rfl rfl (by kernel_rfl) (by decide) (fun K hK => ?_)
    have hz := HZ9.out
    obtain ⟨hcz0, hcz1, hcz2, hcz3⟩ := cz4 hz
    obtain ⟨hfz0, hfz1, hfz2, hfz3⟩ := fz4 hz
    clear hz
    refine skip_ (w1 := ?_) (by rfl) rfl ?_ ?_
    rotate_left
    · go_simp
      rfl
    refine hK.out _ _ ?_
    clear hK K
    refine pure_ (i := 14) (N := some 5) (v := ?_) (a' := ?_) (bs 15 32767) rfl rfl (by kernel_rfl) (fun _ _ _ h => h) (Or.inl ⟨by rfl, ?_⟩) ?_ ?_
    rotate_left
    · intro w'
      go_simp
      with_reducible rfl
    rotate_left
    · simp only [Act.put, sA, sB, sC, i64_w, i32_w]
      rfl
    refine done_ (by kernel_rfl) ?_
    go_wp2
    refine bodyPost_ret (results_ct rfl _ _ (w.heap.size + 1 + 1) 26 #[.int .i64 e, .int .i64 s, .int .i64 st, .int .i64 ap] (0, 0) _ rfl (blk_put4 HZ9.out) Try.underlying26 rfl (by kernel_rfl)) rfl ?_
    exact ⟨_, rfl, r_set4 HR9.out HZ9.out (by decide), below_set4 HB9.out hgz⟩
set_option maxHeartbeats 16000000 in
set_option maxRecDepth 100000 in
theorem answer_gt10 (k : Nat) (e s st ap : Int) (m0 m1 m2 m3 m4 m5 : Int) (q6 q7 : Value) (w : World) (h : commit_CheckTarget.f k e s st ap = some 0) (h1 : m2 = s) (ht : commit_time.f m5 = some true) (hk : m0 = 10) (h3 : e < m5) :
    Calls Try.prog 35 #[.agg #[.int .i64 e, .int .i64 s, .int .i64 st, .int .i64 ap], .agg #[.int .i64 m0, .int .i64 m1, .int .i64 m2, .int .i64 m3, .int .i64 m4, .int .i64 m5, q6, q7]] w fun e' w' => ∃ v4_ : Value, e' = .returned (.tuple #[.agg #[.int .i64 m5, .int .i64 s, .int .i64 ap, .int .i64 ap], v4_]) ∧ Kd.R k53 53 w' w.heap.size (fun _ => True) v4_ [(⟨11, s, 0, 0, ap, m5, (), ()⟩ : S53)] ∧ Below w.heap.size w w' := by
  have hu26 := Try.underlying26
  have hu53 := Try.underlying53
  have hu88 := Try.underlying88
  have hn1 : (m2 != s) = false := by rw [h1]; exact bne_self_eq_false s
  have hk1 : (m0 != 8) = true := by rw [hk]; rfl
  have hk2 : (m0 != 10) = false := by rw [hk]; rfl
  have hd3 : decide (m5 < e) = false := decide_eq_false (by omega)
  have hd4 : decide (e < m5) = true := decide_eq_true h3
  have H := Aside0.mk h
  clear h
  have H1 := Aside0.mk h1
  clear h1
  have HT := Aside0.mk ht
  clear ht
  have HK := Aside0.mk hk
  clear hk
  have H3 := Aside0.mk h3
  clear h3
  have hgz : w.heap.size ≤ w.heap.size + 1 + 1 := by omega
  go_enter Try.func35, Try.ntmps35
  go_wp2_with fail
  have hW := three_alloc26 w #[.int .i64 e, .int .i64 s, .int .i64 st, .int .i64 ap] #[.int .i64 m0, .int .i64 m1, .int .i64 m2, .int .i64 m3, .int .i64 m4, .int .i64 m5, q6, q7] #[.int .i64 0, .int .i64 0, .int .i64 0, .int .i64 0]
  generalize ((w.alloc (.cells #[.int .i64 e, .int .i64 s, .int .i64 st, .int .i64 ap] 26)).alloc (.cells #[.int .i64 m0, .int .i64 m1, .int .i64 m2, .int .i64 m3, .int .i64 m4, .int .i64 m5, q6, q7] 53)).alloc (.cells #[.int .i64 0, .int .i64 0, .int .i64 0, .int .i64 0] 26) = W at hW ⊢
  refine (commit_CheckTarget.calls k e s st ap 0 W H.out).mono ?_
  rintro e' w1 ⟨rfl, hb⟩
  have HX1 := Aside0.mk (blk_below hW.1 hb)
  have HM1 := Aside0.mk (blk_below hW.2.1 hb)
  have HZ1 := Aside0.mk (blk_below hW.2.2.1 hb)
  have HB1 := Aside0.mk (below_then hW.2.2.2 hW.2.2.2.size hb)
  clear hb hW
  have hx := HX1.out
  obtain ⟨hcx0, hcx1, hcx2, hcx3⟩ := cz4 hx
  obtain ⟨hfx0, hfx1, hfx2, hfx3⟩ := fz4 hx
  clear hx
  have hm := HM1.out
  obtain ⟨hcm0, hcm1, hcm2, hcm3, hcm4, hcm5, -, -⟩ := cz8 hm
  clear hm
  have hz := HZ1.out
  obtain ⟨hcz0, hcz1, hcz2, hcz3⟩ := cz4 hz
  obtain ⟨hfz0, hfz1, hfz2, hfz3⟩ := fz4 hz
  clear hz
  go_wp2_with fail
  refine (commit_time.calls m5 true _ HT.out).mono ?_
  rintro e' w2 ⟨rfl, hd⟩
  clear hcx0 hfx0 hcx1 hfx1 hcx2 hfx2 hcx3 hfx3
  clear hcm0 hcm1 hcm2 hcm3 hcm4 hcm5
  clear hcz0 hfz0 hcz1 hfz1 hcz2 hfz2 hcz3 hfz3
  have HX2 := Aside0.mk (blk_below HX1.out hd.below)
  have HM2 := Aside0.mk (blk_below HM1.out hd.below)
  have HZ2 := Aside0.mk (blk_below HZ1.out hd.below)
  have HB2 := Aside0.mk (below_then HB1.out HB1.out.size hd.below)
  clear HX1 HM1 HZ1 HB1
  clear hd
  have hx := HX2.out
  obtain ⟨hcx0, hcx1, hcx2, hcx3⟩ := cz4 hx
  obtain ⟨hfx0, hfx1, hfx2, hfx3⟩ := fz4 hx
  clear hx
  have hm := HM2.out
  obtain ⟨hcm0, hcm1, hcm2, hcm3, hcm4, hcm5, -, -⟩ := cz8 hm
  clear hm
  have hz := HZ2.out
  obtain ⟨hcz0, hcz1, hcz2, hcz3⟩ := cz4 hz
  obtain ⟨hfz0, hfz1, hfz2, hfz3⟩ := fz4 hz
  clear hz
  have hx6 : ((w2.setCell ⟨w.heap.size, 0, none⟩ (.int .i64 m5)).setCell ⟨w.heap.size, 2, none⟩ (.int .i64 ap)).heap[w.heap.size]? = some (.cells #[.int .i64 m5, .int .i64 s, .int .i64 ap, .int .i64 ap] 26 (0, 0)) := blk_put (blk_put HX2.out 0 _ rfl) 2 _ rfl
  have hm6 : ((w2.setCell ⟨w.heap.size, 0, none⟩ (.int .i64 m5)).setCell ⟨w.heap.size, 2, none⟩ (.int .i64 ap)).heap[w.heap.size + 1]? = _ := blk_far (blk_far HM2.out (p := ⟨w.heap.size, 0, none⟩) (by show w.heap.size + 1 ≠ w.heap.size; omega) (.int .i64 m5)) (p := ⟨w.heap.size, 2, none⟩) (by show w.heap.size + 1 ≠ w.heap.size; omega) (.int .i64 ap)
  have hz6 : ((w2.setCell ⟨w.heap.size, 0, none⟩ (.int .i64 m5)).setCell ⟨w.heap.size, 2, none⟩ (.int .i64 ap)).heap[w.heap.size + 1 + 1]? = _ := blk_far (blk_far HZ2.out (p := ⟨w.heap.size, 0, none⟩) (by show w.heap.size + 1 + 1 ≠ w.heap.size; omega) (.int .i64 m5)) (p := ⟨w.heap.size, 2, none⟩) (by show w.heap.size + 1 + 1 ≠ w.heap.size; omega) (.int .i64 ap)
  have hb6 : Below w.heap.size w ((w2.setCell ⟨w.heap.size, 0, none⟩ (.int .i64 m5)).setCell ⟨w.heap.size, 2, none⟩ (.int .i64 ap)) := below_set (below_set HB2.out (Nat.le_refl _)) (Nat.le_refl _)
  have HX6 := Aside0.mk hx6
  have HM6 := Aside0.mk hm6
  have HZ6 := Aside0.mk hz6
  have HB6 := Aside0.mk hb6
  clear hx6 hm6 hz6 hb6
  go_upto_region 8 with (fail)
  clear hcx0 hfx0 hcx1 hfx1 hcx2 hfx2 hcx3 hfx3
  clear hcm0 hcm1 hcm2 hcm3 hcm4 hcm5
  clear hcz0 hfz0 hcz1 hfz1 hcz2 hfz2 hcz3 hfz3
  have hx8 := blk_alloc HX6.out (.cells #[.int .i64 m5, .int .i64 s, .int .i64 ap, .int .i64 ap] 88)
  have hm8 := blk_alloc HM6.out (.cells #[.int .i64 m5, .int .i64 s, .int .i64 ap, .int .i64 ap] 88)
  have hz8 := blk_alloc HZ6.out (.cells #[.int .i64 m5, .int .i64 s, .int .i64 ap, .int .i64 ap] 88)
  have hb8 := below_alloc HB6.out (.cells #[.int .i64 m5, .int .i64 s, .int .i64 ap, .int .i64 ap] 88)
  have ht8 : (((w2.setCell ⟨w.heap.size, 0, none⟩ (.int .i64 m5)).setCell ⟨w.heap.size, 2, none⟩ (.int .i64 ap)).alloc (.cells #[.int .i64 m5, .int .i64 s, .int .i64 ap, .int .i64 ap] 88)).heap[w2.heap.size]? = some (.cells #[.int .i64 m5, .int .i64 s, .int .i64 ap, .int .i64 ap] 88 (0, 0)) := by have h := blk_new ((w2.setCell ⟨w.heap.size, 0, none⟩ (.int .i64 m5)).setCell ⟨w.heap.size, 2, none⟩ (.int .i64 ap)) (.cells #[.int .i64 m5, .int .i64 s, .int .i64 ap, .int .i64 ap] 88); simp only [World.size_setCell] at h; exact h
  generalize hg : w2.heap.size = g at ht8 ⊢
  generalize (((w2.setCell ⟨w.heap.size, 0, none⟩ (.int .i64 m5)).setCell ⟨w.heap.size, 2, none⟩ (.int .i64 ap)).alloc (.cells #[.int .i64 m5, .int .i64 s, .int .i64 ap, .int .i64 ap] 88)) = W7 at hx8 hm8 hz8 hb8 ht8 ⊢
  have HX8 := Aside0.mk (show W7.drew.heap[w.heap.size]? = _ from hx8)
  have HM8 := Aside0.mk (show W7.drew.heap[w.heap.size + 1]? = _ from hm8)
  have HZ8 := Aside0.mk (show W7.drew.heap[w.heap.size + 1 + 1]? = _ from hz8)
  have HB8 := Aside0.mk (below_drew1 hb8)
  have HT8 := Aside0.mk (show W7.drew.heap[g]? = _ from ht8)
  have HHG := Aside0.mk hg
  clear hx8 hm8 hz8 hb8 ht8 hg
  refine start_ (n := 15) (S := fun w' => w'.cell? ⟨w.heap.size, 0, none⟩ = some (.int .i64 m5) ∧ w'.cell? ⟨w.heap.size, 1, none⟩ = some (.int .i64 s) ∧ w'.cell? ⟨w.heap.size, 2, none⟩ = some (.int .i64 ap) ∧ w'.cell? ⟨w.heap.size, 3, none⟩ = some (.int .i64 ap) ∧ w'.cell? ⟨g, 0, none⟩ = some (.int .i64 m5) ∧ w'.cell? ⟨g, 1, none⟩ = some (.int .i64 s) ∧ w'.cell? ⟨g, 2, none⟩ = some (.int .i64 ap) ∧ w'.cell? ⟨g, 3, none⟩ = some (.int .i64 ap) ∧ w'.cell? ⟨w.heap.size + 1, 0, none⟩ = some (.int .i64 m0)) (ds := [13]) #[false, false, false, false, false, false, false, false, false, false, false, false, false, false, false] (by kernel_rfl) rfl rfl (ct4 HX8.out ⟨(blk_cell HT8.out 0).trans rfl, (blk_cell HT8.out 1).trans rfl, (blk_cell HT8.out 2).trans rfl, (blk_cell HT8.out 3).trans rfl, (blk_cell HM8.out 0).trans rfl⟩) (fun hHeld => ?_)
  refine pure_ (i := 9) (N := some 63) (v := ?_) (a' := ?_) (bs 15 512) rfl rfl (by kernel_rfl) (fun _ _ _ h => h) (Or.inl ⟨by rfl, ?_⟩) ?_ ?_
  rotate_left
  · intro w'
    go_simp
    with_reducible rfl
  rotate_left
  · simp only [Act.put, sA, sB, sC, i64_w, i32_w]
    rfl
  refine take_ (i := 0) (N := some 56) (v := ?_) (a' := ?_) (bs 15 513) rfl rfl (by kernel_rfl) (fun _ _ _ h => h) (Or.inl ⟨by rfl, ?_⟩) hHeld ?_ ?_
  rotate_left
  · rintro w' ⟨s0, s1, s2, s3, s4, s5, s6, s7, s8⟩
    go_simp
    with_reducible rfl
  rotate_left
  · simp only [Act.put, sA, sB, sC, i64_w, i32_w]
    rfl
  refine take_ (i := 2) (N := some 58) (v := ?_) (a' := ?_) (bs 15 517) rfl rfl (by kernel_rfl) (fun _ _ _ h => h) (Or.inl ⟨by rfl, ?_⟩) hHeld ?_ ?_
  rotate_left
  · rintro w' ⟨s0, s1, s2, s3, s4, s5, s6, s7, s8⟩
    go_simp
    with_reducible rfl
  rotate_left
  · simp only [Act.put, sA, sB, sC, i64_w, i32_w]
    rfl
  refine pure_ (i := 3) (N := some 59) (v := ?_) (a' := ?_) (bs 15 525) rfl rfl (by kernel_rfl) (fun _ _ _ h => h) (Or.inl ⟨by rfl, ?_⟩) ?_ ?_
  rotate_left
  · intro w'
    go_simp
    with_reducible rfl
  rotate_left
  · simp only [Act.put, sA, sB, sC, i64_w, i32_w]
    rfl
  refine take_ (i := 5) (N := some 60) (v := ?_) (a' := ?_) (bs 15 557) rfl rfl (by kernel_rfl) (fun _ _ _ h => h) (Or.inl ⟨by rfl, ?_⟩) hHeld ?_ ?_
  rotate_left
  · rintro w' ⟨s0, s1, s2, s3, s4, s5, s6, s7, s8⟩
    go_simp
    with_reducible rfl
  rotate_left
  · simp only [Act.put, sA, sB, sC, i64_w, i32_w]
    rfl
  refine pure_ (i := 6) (N := some 61) (v := ?_) (a' := ?_) (bs 15 621) rfl rfl (by kernel_rfl) (fun _ _ _ h => h) (Or.inl ⟨by rfl, ?_⟩) ?_ ?_
  rotate_left
  · intro w'
    go_simp
    with_reducible rfl
  rotate_left
  · simp only [Act.put, sA, sB, sC, i64_w, i32_w]
    rfl
  refine take_ (i := 10) (N := some 64) (v := ?_) (a' := ?_) (bs 15 1645) rfl rfl (by kernel_rfl) (fun _ _ _ h => h) (Or.inl ⟨by rfl, ?_⟩) hHeld ?_ ?_
  rotate_left
  · rintro w' ⟨s0, s1, s2, s3, s4, s5, s6, s7, s8⟩
    go_simp
    with_reducible rfl
  rotate_left
  · simp only [Act.put, sA, sB, sC, i64_w, i32_w]
    rfl
  refine one_ (i := 1) (N := some 57) (bs 15 1647) rfl rfl (by kernel_rfl) (by decide) (fun K hK => ?_)
  refine value_ (w1 := W7.drew.alloc (.map #[] 0)) (v := .map (some W7.drew.heap.size)) (by rfl) rfl ?_ ?_
  · first | (go_simp; done) | (go_simp; rfl) | (simp [execOp, run_makeMap]; done)
  have HP := Aside0.mk (MapKept.heap_alloc W7.drew (.map #[] 0)).1
  have HG := Aside0.mk (World.grownBy.refl (W7.drew.alloc (.map #[] 0)) (some W7.drew.heap.size))
  refine hK.out _ _ ⟨(blk_cell (blk_below HX8.out (map_below HG.out)) 0).trans rfl, (blk_cell (blk_below HX8.out (map_below HG.out)) 1).trans rfl, (blk_cell (blk_below HX8.out (map_below HG.out)) 2).trans rfl, (blk_cell (blk_below HX8.out (map_below HG.out)) 3).trans rfl, (blk_cell (blk_below HT8.out (map_below HG.out)) 0).trans rfl, (blk_cell (blk_below HT8.out (map_below HG.out)) 1).trans rfl, (blk_cell (blk_below HT8.out (map_below HG.out)) 2).trans rfl, (blk_cell (blk_below HT8.out (map_below HG.out)) 3).trans rfl, (blk_cell (blk_below HM8.out (map_below HG.out)) 0).trans rfl⟩ (fun hHeld => ?_)
  clear hK K
  refine norm_ (a' := ?_) ?_ ?_
  rotate_left
  · show Act.put _ (some 57) _ = _
    simp only [Act.put, sA, sB, sC, i64_w, i32_w]
    rfl
  refine two_ (i := 4) (j := 7) (Ni := none) (Nj := none) #[true, true, true, true, true, true, true, false, false, true, true, false, false, false, false] #[true, true, true, true, false, true, true, true, false, true, true, false, false, false, false] rfl rfl rfl rfl (by kernel_rfl) (by decide) (by decide) (fun K hK => ?_) (fun K hK => ?_)
  · skip
    refine insert_ (by rfl) rfl (.tmp 57) (.const (.int .i64 8)) (.tmp 59) 92 rfl Try.underlying92 Try.underlying3 W7.drew.heap.size #[] 0 8 (.func (.func 54) #[.agg #[.int .i64 m5, .int .i64 s, .int .i64 ap, .int .i64 ap]] #[]) rfl rfl rfl HP.out rfl ?_
    intro w' hp hg
    have HG' := Aside0.mk (HG.out.trans hg)
    have HP' := Aside0.mk hp
    clear HP HG hp hg
    have HP := HP'
    have HG := HG'
    clear HP' HG'
    refine hK.out _ _ ⟨(blk_cell (blk_below HX8.out (map_below HG.out)) 0).trans rfl, (blk_cell (blk_below HX8.out (map_below HG.out)) 1).trans rfl, (blk_cell (blk_below HX8.out (map_below HG.out)) 2).trans rfl, (blk_cell (blk_below HX8.out (map_below HG.out)) 3).trans rfl, (blk_cell (blk_below HT8.out (map_below HG.out)) 0).trans rfl, (blk_cell (blk_below HT8.out (map_below HG.out)) 1).trans rfl, (blk_cell (blk_below HT8.out (map_below HG.out)) 2).trans rfl, (blk_cell (blk_below HT8.out (map_below HG.out)) 3).trans rfl, (blk_cell (blk_below HM8.out (map_below HG.out)) 0).trans rfl⟩ (fun hHeld => ?_)
    clear hK K
    refine one_ (i := 7) (N := none) (bs 15 1791) rfl rfl (by kernel_rfl) (by decide) (fun K hK => ?_)
    refine insert_ (by rfl) rfl (.tmp 57) (.const (.int .i64 10)) (.tmp 61) 92 rfl Try.underlying92 Try.underlying3 W7.drew.heap.size #[⟨.int .i64 8, .func (.func 54) #[.agg #[.int .i64 m5, .int .i64 s, .int .i64 ap, .int .i64 ap]] #[], 0⟩] 1 10 (.func (.func 56) #[.agg #[.int .i64 m5, .int .i64 s, .int .i64 ap, .int .i64 ap]] #[]) rfl rfl rfl HP.out rfl ?_
    intro w' hp hg
    have HG' := Aside0.mk (HG.out.trans hg)
    have HP' := Aside0.mk hp
    clear HP HG hp hg
    have HP := HP'
    have HG := HG'
    clear HP' HG'
    refine hK.out _ _ ⟨(blk_cell (blk_below HX8.out (map_below HG.out)) 0).trans rfl, (blk_cell (blk_below HX8.out (map_below HG.out)) 1).trans rfl, (blk_cell (blk_below HX8.out (map_below HG.out)) 2).trans rfl, (blk_cell (blk_below HX8.out (map_below HG.out)) 3).trans rfl, (blk_cell (blk_below HT8.out (map_below HG.out)) 0).trans rfl, (blk_cell (blk_below HT8.out (map_below HG.out)) 1).trans rfl, (blk_cell (blk_below HT8.out (map_below HG.out)) 2).trans rfl, (blk_cell (blk_below HT8.out (map_below HG.out)) 3).trans rfl, (blk_cell (blk_below HM8.out (map_below HG.out)) 0).trans rfl⟩ (fun hHeld => ?_)
    clear hK K
    refine pure_ (i := 8) (N := some 62) (v := ?_) (a' := ?_) (bs 15 2047) rfl rfl (by kernel_rfl) (fun _ _ _ h => h) (Or.inl ⟨by rfl, ?_⟩) ?_ ?_
    rotate_left
    · intro w'
      go_simp
      with_reducible rfl
    rotate_left
    · simp only [Act.put, sA, sB, sC, i64_w, i32_w]
      rfl
    refine one_ (i := 11) (N := some 65) (bs 15 4095) rfl rfl (by kernel_rfl) (by decide) (fun K hK => ?_)
    refine look_ (by rfl) rfl (.tmp 62) (.tmp 64) 92 rfl Try.underlying92 Try.underlying3 W7.drew.heap.size #[⟨.int .i64 8, .func (.func 54) #[.agg #[.int .i64 m5, .int .i64 s, .int .i64 ap, .int .i64 ap]] #[], 0⟩, ⟨.int .i64 10, .func (.func 56) #[.agg #[.int .i64 m5, .int .i64 s, .int .i64 ap, .int .i64 ap]] #[], 1⟩] 2 m0 1 (.func (.func 56) #[.agg #[.int .i64 m5, .int .i64 s, .int .i64 ap, .int .i64 ap]] #[]) rfl rfl HP.out (by rw [HK.out]; rfl) ?_
    refine hK.out _ _ ⟨(blk_cell (blk_below HX8.out (map_below HG.out)) 0).trans rfl, (blk_cell (blk_below HX8.out (map_below HG.out)) 1).trans rfl, (blk_cell (blk_below HX8.out (map_below HG.out)) 2).trans rfl, (blk_cell (blk_below HX8.out (map_below HG.out)) 3).trans rfl, (blk_cell (blk_below HT8.out (map_below HG.out)) 0).trans rfl, (blk_cell (blk_below HT8.out (map_below HG.out)) 1).trans rfl, (blk_cell (blk_below HT8.out (map_below HG.out)) 2).trans rfl, (blk_cell (blk_below HT8.out (map_below HG.out)) 3).trans rfl, (blk_cell (blk_below HM8.out (map_below HG.out)) 0).trans rfl⟩ (fun hHeld => ?_)
    clear hK K
    refine norm_ (a' := ?_) ?_ ?_
    rotate_left
    · show Act.put _ (some 65) _ = _
      simp only [Act.put, sA, sB, sC, i64_w, i32_w]
      rfl
    refine one_ (i := 12) (N := some 66) (bs 15 8191) rfl rfl (by kernel_rfl) (by decide) (fun K hK => ?_)
    refine goesV_ (f := 56) (fn := Try.f56) (by kernel_rfl) rfl (by kernel_rfl) #[.agg #[.int .i64 m5, .int .i64 s, .int .i64 ap, .int .i64 ap]] 65 (by rfl) rfl rfl rfl ?_
    refine (commit_target_committed.calls m5 s ap ap _ _ rfl).mono ?_
    rintro e' w9 ⟨v9, rfl, hR, hb⟩
    refine ⟨_, rfl, ?_⟩
    have HB7 := Aside0.mk (below_then HB8.out HB8.out.size (map_below HG.out))
    have HX9 := Aside0.mk (blk_below (blk_below HX8.out (map_below HG.out)) hb)
    have HT9 := Aside0.mk (blk_below (blk_below HT8.out (map_below HG.out)) hb)
    have HM9 := Aside0.mk (blk_below (blk_below HM8.out (map_below HG.out)) hb)
    have HZ9 := Aside0.mk (blk_below (blk_below HZ8.out (map_below HG.out)) hb)
    have HB9 := Aside0.mk (below_then HB7.out HB7.out.size hb)
    have HR9 := Aside0.mk (Kd.R_lower hR HB7.out.size)
    clear hb hR
    refine hK.out _ _ (ct4 HX9.out ⟨(blk_cell HT9.out 0).trans rfl, (blk_cell HT9.out 1).trans rfl, (blk_cell HT9.out 2).trans rfl, (blk_cell HT9.out 3).trans rfl, (blk_cell HM9.out 0).trans rfl⟩) (fun hHeld => ?_)
    clear hK K
    refine norm_ (a' := ?_) ?_ ?_
    rotate_left
    · show Act.put _ (some 66) _ = _
      simp only [Act.put, sA, sB, sC, i64_w, i32_w]
      rfl
    refine last_ (i := 13) (N := none) (bs 15 16383) rfl rfl (by kernel_rfl) (by decide) (fun K hK => ?_)
    have hz := HZ9.out
    obtain ⟨hcz0, hcz1, hcz2, hcz3⟩ := cz4 hz
    obtain ⟨hfz0, hfz1, hfz2, hfz3⟩ := fz4 hz
    clear hz
    refine skip_ (w1 := ?_) (by rfl) rfl ?_ ?_
    rotate_left
    · go_simp
      rfl
    refine hK.out _ _ ?_
    clear hK K
    refine pure_ (i := 14) (N := some 5) (v := ?_) (a' := ?_) (bs 15 32767) rfl rfl (by kernel_rfl) (fun _ _ _ h => h) (Or.inl ⟨by rfl, ?_⟩) ?_ ?_
    rotate_left
    · intro w'
      go_simp
      with_reducible rfl
    rotate_left
    · simp only [Act.put, sA, sB, sC, i64_w, i32_w]
      rfl
    refine done_ (by kernel_rfl) ?_
    go_wp2
    refine bodyPost_ret (results_ct rfl _ _ (w.heap.size + 1 + 1) 26 #[.int .i64 m5, .int .i64 s, .int .i64 ap, .int .i64 ap] (0, 0) _ rfl (blk_put4 HZ9.out) Try.underlying26 rfl (by kernel_rfl)) rfl ?_
    exact ⟨_, rfl, r_set4 HR9.out HZ9.out (by decide), below_set4 HB9.out hgz⟩
  · skip
    refine insert_ (by rfl) rfl (.tmp 57) (.const (.int .i64 10)) (.tmp 61) 92 rfl Try.underlying92 Try.underlying3 W7.drew.heap.size #[] 0 10 (.func (.func 56) #[.agg #[.int .i64 m5, .int .i64 s, .int .i64 ap, .int .i64 ap]] #[]) rfl rfl rfl HP.out rfl ?_
    intro w' hp hg
    have HG' := Aside0.mk (HG.out.trans hg)
    have HP' := Aside0.mk hp
    clear HP HG hp hg
    have HP := HP'
    have HG := HG'
    clear HP' HG'
    refine hK.out _ _ ⟨(blk_cell (blk_below HX8.out (map_below HG.out)) 0).trans rfl, (blk_cell (blk_below HX8.out (map_below HG.out)) 1).trans rfl, (blk_cell (blk_below HX8.out (map_below HG.out)) 2).trans rfl, (blk_cell (blk_below HX8.out (map_below HG.out)) 3).trans rfl, (blk_cell (blk_below HT8.out (map_below HG.out)) 0).trans rfl, (blk_cell (blk_below HT8.out (map_below HG.out)) 1).trans rfl, (blk_cell (blk_below HT8.out (map_below HG.out)) 2).trans rfl, (blk_cell (blk_below HT8.out (map_below HG.out)) 3).trans rfl, (blk_cell (blk_below HM8.out (map_below HG.out)) 0).trans rfl⟩ (fun hHeld => ?_)
    clear hK K
    refine one_ (i := 4) (N := none) (bs 15 1791) rfl rfl (by kernel_rfl) (by decide) (fun K hK => ?_)
    refine insert_ (by rfl) rfl (.tmp 57) (.const (.int .i64 8)) (.tmp 59) 92 rfl Try.underlying92 Try.underlying3 W7.drew.heap.size #[⟨.int .i64 10, .func (.func 56) #[.agg #[.int .i64 m5, .int .i64 s, .int .i64 ap, .int .i64 ap]] #[], 0⟩] 1 8 (.func (.func 54) #[.agg #[.int .i64 m5, .int .i64 s, .int .i64 ap, .int .i64 ap]] #[]) rfl rfl rfl HP.out rfl ?_
    intro w' hp hg
    have HG' := Aside0.mk (HG.out.trans hg)
    have HP' := Aside0.mk hp
    clear HP HG hp hg
    have HP := HP'
    have HG := HG'
    clear HP' HG'
    refine hK.out _ _ ⟨(blk_cell (blk_below HX8.out (map_below HG.out)) 0).trans rfl, (blk_cell (blk_below HX8.out (map_below HG.out)) 1).trans rfl, (blk_cell (blk_below HX8.out (map_below HG.out)) 2).trans rfl, (blk_cell (blk_below HX8.out (map_below HG.out)) 3).trans rfl, (blk_cell (blk_below HT8.out (map_below HG.out)) 0).trans rfl, (blk_cell (blk_below HT8.out (map_below HG.out)) 1).trans rfl, (blk_cell (blk_below HT8.out (map_below HG.out)) 2).trans rfl, (blk_cell (blk_below HT8.out (map_below HG.out)) 3).trans rfl, (blk_cell (blk_below HM8.out (map_below HG.out)) 0).trans rfl⟩ (fun hHeld => ?_)
    clear hK K
    refine pure_ (i := 8) (N := some 62) (v := ?_) (a' := ?_) (bs 15 2047) rfl rfl (by kernel_rfl) (fun _ _ _ h => h) (Or.inl ⟨by rfl, ?_⟩) ?_ ?_
    rotate_left
    · intro w'
      go_simp
      with_reducible rfl
    rotate_left
    · simp only [Act.put, sA, sB, sC, i64_w, i32_w]
      rfl
    refine one_ (i := 11) (N := some 65) (bs 15 4095) rfl rfl (by kernel_rfl) (by decide) (fun K hK => ?_)
    refine look_ (by rfl) rfl (.tmp 62) (.tmp 64) 92 rfl Try.underlying92 Try.underlying3 W7.drew.heap.size #[⟨.int .i64 10, .func (.func 56) #[.agg #[.int .i64 m5, .int .i64 s, .int .i64 ap, .int .i64 ap]] #[], 0⟩, ⟨.int .i64 8, .func (.func 54) #[.agg #[.int .i64 m5, .int .i64 s, .int .i64 ap, .int .i64 ap]] #[], 1⟩] 2 m0 0 (.func (.func 56) #[.agg #[.int .i64 m5, .int .i64 s, .int .i64 ap, .int .i64 ap]] #[]) rfl rfl HP.out (by rw [HK.out]; rfl) ?_
    refine hK.out _ _ ⟨(blk_cell (blk_below HX8.out (map_below HG.out)) 0).trans rfl, (blk_cell (blk_below HX8.out (map_below HG.out)) 1).trans rfl, (blk_cell (blk_below HX8.out (map_below HG.out)) 2).trans rfl, (blk_cell (blk_below HX8.out (map_below HG.out)) 3).trans rfl, (blk_cell (blk_below HT8.out (map_below HG.out)) 0).trans rfl, (blk_cell (blk_below HT8.out (map_below HG.out)) 1).trans rfl, (blk_cell (blk_below HT8.out (map_below HG.out)) 2).trans rfl, (blk_cell (blk_below HT8.out (map_below HG.out)) 3).trans rfl, (blk_cell (blk_below HM8.out (map_below HG.out)) 0).trans rfl⟩ (fun hHeld => ?_)
    clear hK K
    refine norm_ (a' := ?_) ?_ ?_
    rotate_left
    · show Act.put _ (some 65) _ = _
      simp only [Act.put, sA, sB, sC, i64_w, i32_w]
      rfl
    refine one_ (i := 12) (N := some 66) (bs 15 8191) rfl rfl (by kernel_rfl) (by decide) (fun K hK => ?_)
    refine goesV_ (f := 56) (fn := Try.f56) (by kernel_rfl) rfl (by kernel_rfl) #[.agg #[.int .i64 m5, .int .i64 s, .int .i64 ap, .int .i64 ap]] 65 (by rfl) rfl rfl rfl ?_
    refine (commit_target_committed.calls m5 s ap ap _ _ rfl).mono ?_
    rintro e' w9 ⟨v9, rfl, hR, hb⟩
    refine ⟨_, rfl, ?_⟩
    have HB7 := Aside0.mk (below_then HB8.out HB8.out.size (map_below HG.out))
    have HX9 := Aside0.mk (blk_below (blk_below HX8.out (map_below HG.out)) hb)
    have HT9 := Aside0.mk (blk_below (blk_below HT8.out (map_below HG.out)) hb)
    have HM9 := Aside0.mk (blk_below (blk_below HM8.out (map_below HG.out)) hb)
    have HZ9 := Aside0.mk (blk_below (blk_below HZ8.out (map_below HG.out)) hb)
    have HB9 := Aside0.mk (below_then HB7.out HB7.out.size hb)
    have HR9 := Aside0.mk (Kd.R_lower hR HB7.out.size)
    clear hb hR
    refine hK.out _ _ (ct4 HX9.out ⟨(blk_cell HT9.out 0).trans rfl, (blk_cell HT9.out 1).trans rfl, (blk_cell HT9.out 2).trans rfl, (blk_cell HT9.out 3).trans rfl, (blk_cell HM9.out 0).trans rfl⟩) (fun hHeld => ?_)
    clear hK K
    refine norm_ (a' := ?_) ?_ ?_
    rotate_left
    · show Act.put _ (some 66) _ = _
      simp only [Act.put, sA, sB, sC, i64_w, i32_w]
      rfl
    refine last_ (i := 13) (N := none) (bs 15 16383) rfl rfl (by kernel_rfl) (by decide) (fun K hK => ?_)
    have hz := HZ9.out
    obtain ⟨hcz0, hcz1, hcz2, hcz3⟩ := cz4 hz
    obtain ⟨hfz0, hfz1, hfz2, hfz3⟩ := fz4 hz
    clear hz
    refine skip_ (w1 := ?_) (by rfl) rfl ?_ ?_
    rotate_left
    · go_simp
      rfl
    refine hK.out _ _ ?_
    clear hK K
    refine pure_ (i := 14) (N := some 5) (v := ?_) (a' := ?_) (bs 15 32767) rfl rfl (by kernel_rfl) (fun _ _ _ h => h) (Or.inl ⟨by rfl, ?_⟩) ?_ ?_
    rotate_left
    · intro w'
      go_simp
      with_reducible rfl
    rotate_left
    · simp only [Act.put, sA, sB, sC, i64_w, i32_w]
      rfl
    refine done_ (by kernel_rfl) ?_
    go_wp2
    refine bodyPost_ret (results_ct rfl _ _ (w.heap.size + 1 + 1) 26 #[.int .i64 m5, .int .i64 s, .int .i64 ap, .int .i64 ap] (0, 0) _ rfl (blk_put4 HZ9.out) Try.underlying26 rfl (by kernel_rfl)) rfl ?_
    exact ⟨_, rfl, r_set4 HR9.out HZ9.out (by decide), below_set4 HB9.out hgz⟩
def commit_Answer.f (k : Nat) (aA : Int) (aB : Int) (aE : Int) (aC : Int) (aF : Int) (aH : Int) (aG : Int) (aI : Int) (aJ : Int) (aD : Int) (aK : Unit) (aL : Unit) : Option (Int × Int × Int × Int × (List (S53))) :=
  (commit_CheckTarget.f k aA aB aE aC).bind fun c => if c = 0 then (if aG = aB then (commit_time.f aD).bind fun t => if t = true then
    (if aF = 8 then (if aD < aA then some (aA, aB, aE, aC, [⟨12, aB, 0, 0, 0, aA, (), ()⟩]) else if aA < aD then some (aD, aB, aC, aC, [⟨9, aB, 0, 0, aC, aD, (), ()⟩]) else some (aA, aB, aE, aC, [⟨9, aB, 0, 0, aE, aA, (), ()⟩]))
     else if aF = 10 then (if aD < aA then some (aA, aB, aE, aC, [⟨12, aB, 0, 0, 0, aA, (), ()⟩]) else if aA < aD then some (aD, aB, aC, aC, [⟨11, aB, 0, 0, aC, aD, (), ()⟩]) else some (aA, aB, aE, aC, [⟨11, aB, 0, 0, aC, aA, (), ()⟩]))
     else some (aA, aB, aE, aC, [])) else some (aA, aB, aE, aC, []) else some (aA, aB, aE, aC, [])) else some (aA, aB, aE, aC, [])
theorem commit_Answer.mono : ∀ a0 a1 a2 a3 a4 a5 a6 a7 a8 a9 a10 a11 k, LeO (commit_Answer.f k a0 a1 a2 a3 a4 a5 a6 a7 a8 a9 a10 a11) (commit_Answer.f (k + 1) a0 a1 a2 a3 a4 a5 a6 a7 a8 a9 a10 a11) := by
  intro a0 a1 a2 a3 a4 a5 a6 a7 a8 a9 a10 a11 k
  unfold commit_Answer.f
  repeat' first
    | exact LeO.refl _
    | exact LeO.none _
    | exact commit_CheckTarget.mono _ _ _ _ _
    | refine LeO.ite ?_ ?_
    | refine LeO.bind ?_ (fun _ => ?_)
theorem commit_Answer.calls (k : Nat) (aA : Int) (aB : Int) (aE : Int) (aC : Int) (aF : Int) (aH : Int) (aG : Int) (aI : Int) (aJ : Int) (aD : Int) (aK : Unit) (q1_6 : Value) (aL : Unit) (q1_7 : Value) (r1 : Int) (r2 : Int) (r3 : Int) (r4 : Int) (r5 : List (S53)) (w : World) (h : commit_Answer.f k aA aB aE aC aF aH aG aI aJ aD aK aL = some (r1, r2, r3, r4, r5)) :
    Calls Try.prog 35 #[.agg #[.int .i64 aA, .int .i64 aB, .int .i64 aE, .int .i64 aC], .agg #[.int .i64 aF, .int .i64 aH, .int .i64 aG, .int .i64 aI, .int .i64 aJ, .int .i64 aD, q1_6, q1_7]] w fun e w' => ∃ v4_ : Value, e = .returned (.tuple #[.agg #[.int .i64 r1, .int .i64 r2, .int .i64 r3, .int .i64 r4], v4_]) ∧ Kd.R k53 53 w' w.heap.size (fun _ => True) v4_ r5 ∧ Below w.heap.size w w' := by
  unfold commit_Answer.f at h
  obtain ⟨c, he, h⟩ := Option.bind_eq_some_iff.1 h
  by_cases h0 : c = 0
  rotate_left
  · rw [if_neg h0] at h
    simp only [Option.some.injEq, Prod.mk.injEq] at h
    obtain ⟨rfl, rfl, rfl, rfl, rfl⟩ := h
    exact (answer_err k aA aB aE aC aF aH aG aI aJ aD q1_6 q1_7 c w he h0).mono fun _ _ hh => ⟨_, hh.1, Kd.R_nil _ _ _ _ _, hh.2⟩
  rw [if_pos h0] at h
  subst h0
  by_cases h1 : aG = aB
  rotate_left
  · rw [if_neg h1] at h
    simp only [Option.some.injEq, Prod.mk.injEq] at h
    obtain ⟨rfl, rfl, rfl, rfl, rfl⟩ := h
    exact (answer_site k aA aB aE aC aF aH aG aI aJ aD q1_6 q1_7 w he h1).mono fun _ _ hh => ⟨_, hh.1, Kd.R_nil _ _ _ _ _, hh.2⟩
  rw [if_pos h1] at h
  obtain ⟨t, ht, h⟩ := Option.bind_eq_some_iff.1 h
  cases t with
  | false =>
    rw [if_neg (by decide)] at h
    simp only [Option.some.injEq, Prod.mk.injEq] at h
    obtain ⟨rfl, rfl, rfl, rfl, rfl⟩ := h
    exact (answer_time k aA aB aE aC aF aH aG aI aJ aD q1_6 q1_7 w he h1 ht).mono fun _ _ hh => ⟨_, hh.1, Kd.R_nil _ _ _ _ _, hh.2⟩
  | true =>
    rw [if_pos rfl] at h
    by_cases k8 : aF = 8
    · rw [if_pos k8] at h
      by_cases h3 : aD < aA
      · rw [if_pos h3] at h
        simp only [Option.some.injEq, Prod.mk.injEq] at h
        obtain ⟨rfl, rfl, rfl, rfl, rfl⟩ := h
        exact answer_refuse8 k aA aB aE aC aF aH aG aI aJ aD q1_6 q1_7 w he h1 ht k8 h3
      rw [if_neg h3] at h
      by_cases h4 : aA < aD
      · rw [if_pos h4] at h
        simp only [Option.some.injEq, Prod.mk.injEq] at h
        obtain ⟨rfl, rfl, rfl, rfl, rfl⟩ := h
        exact answer_gt8 k aA aB aE aC aF aH aG aI aJ aD q1_6 q1_7 w he h1 ht k8 h4
      rw [if_neg h4] at h
      simp only [Option.some.injEq, Prod.mk.injEq] at h
      obtain ⟨rfl, rfl, rfl, rfl, rfl⟩ := h
      exact answer_eq8 k aA aB aE aC aF aH aG aI aJ aD q1_6 q1_7 w he h1 ht k8 (by omega)
    rw [if_neg k8] at h
    by_cases k10 : aF = 10
    · rw [if_pos k10] at h
      by_cases h3 : aD < aA
      · rw [if_pos h3] at h
        simp only [Option.some.injEq, Prod.mk.injEq] at h
        obtain ⟨rfl, rfl, rfl, rfl, rfl⟩ := h
        exact answer_refuse10 k aA aB aE aC aF aH aG aI aJ aD q1_6 q1_7 w he h1 ht k10 h3
      rw [if_neg h3] at h
      by_cases h4 : aA < aD
      · rw [if_pos h4] at h
        simp only [Option.some.injEq, Prod.mk.injEq] at h
        obtain ⟨rfl, rfl, rfl, rfl, rfl⟩ := h
        exact answer_gt10 k aA aB aE aC aF aH aG aI aJ aD q1_6 q1_7 w he h1 ht k10 h4
      rw [if_neg h4] at h
      simp only [Option.some.injEq, Prod.mk.injEq] at h
      obtain ⟨rfl, rfl, rfl, rfl, rfl⟩ := h
      exact answer_eq10 k aA aB aE aC aF aH aG aI aJ aD q1_6 q1_7 w he h1 ht k10 (by omega)
    rw [if_neg k10] at h
    simp only [Option.some.injEq, Prod.mk.injEq] at h
    obtain ⟨rfl, rfl, rfl, rfl, rfl⟩ := h
    exact (answer_kind k aA aB aE aC aF aH aG aI aJ aD q1_6 q1_7 w he h1 ht ⟨k8, k10⟩).mono fun _ _ hh => ⟨_, hh.1, Kd.R_nil _ _ _ _ _, hh.2⟩
end Go.Proofs.Ytedoloapddmanaa.PB
