-- Written by a program of this session (wip/tools) over the kit's print.
import Derived.Test.YtppniempndnghaaPAx0
import Derived.Test.YtppniempndnghaaPAx2
import Derived.Test.YtppniempndnghaaPAx3
import Derived.Test.YtppniempndnghaaPAx4
import Derived.Test.YtppniempndnghaaPAx7
namespace Go.Proofs.Ytppniempndnghaa.PA
open Go.RowKit Go.Proofs.YtppniempndnghaaW.PrintWords Go.Proofs.YtppniempndnghaaW.PrintLast Go.Proofs.YtppniempndnghaaW.PrintMore
attribute [local go_sem] max2_int min2_int max_two min_two max_three min_three max_four min_four   -- for this text's walks alone
set_option linter.unusedVariables false
set_option linter.unusedSimpArgs false

-- @OURS@
/-! ### throttle_state_admit: function 33 -/
set_option maxHeartbeats 4000000 in
set_option maxRecDepth 100000 in
theorem admit_full (g : Nat) (a0 a1 a2 a3 : Int) (A : Option Addr) (c : Nat) (l : List S71) (n t : Int) (w0 w : World) (hI : StT w g a0 a1 a2 a3 (.slice A l.length c)) (hB : Below w0.heap.size w0 w) (hR : Kd.R k71 71 w w0.heap.size (fun _ => True) (.slice A l.length c) l)
    (ht : throttle_state_total.f a0 a1 a2 a3 l = some t) (hn : wrap64 (t + n) > 1073741824) :
    Calls Try.prog 33 #[.pointer (some ⟨g, 0, none⟩), .int .i64 n] w fun e' w' => e' = .returned (.int .i64 11) ∧ Below w0.heap.size w0 w' ∧ Kt w w' := by
  have hu73 := Try.underlying73
  have hu24 := Try.underlying24
  obtain ⟨hc0, hc1, hc2, hc3, hc4, -, -, -, -, -⟩ := hI.cells
  obtain ⟨A', c', he, hlc, hC⟩ := Kd.R_reads hR
  obtain ⟨rfl, -, rfl⟩ : A' = A ∧ l.length = l.length ∧ c' = c := by injection he with h1 h2 h3; exact ⟨h1.symm, rfl, h3.symm⟩
  have HI := Aside0.mk hI
  have HB := Aside0.mk hB
  have HR := Aside0.mk hR
  have HC := Aside0.mk hC
  have HL := Aside0.mk hlc
  have H := Aside0.mk ht
  have hn : decide (1073741824 < wrap64 (t + n)) = true := decide_eq_true hn
  clear hI hB hR hC ht he hlc
  go_enter Try.func33, Try.ntmps33
  go_wp2_with fail
  refine (throttle_state_total.calls a0 a1 a2 a3 _ _ l t w HC.out HL.out H.out).mono ?_
  rintro e' w1 ⟨rfl, hb⟩
  have HB1 := Aside0.mk (below_then HB.out HB.out.size hb)
  have HK1 := Aside0.mk ((Kt.refl w).below hb)
  clear hb
  go_wp2
  go_ret
  exact ⟨rfl, HB1.out, HK1.out⟩

set_option maxHeartbeats 4000000 in
set_option maxRecDepth 100000 in
theorem admit_merge (g : Nat) (a0 a1 a2 a3 : Int) (A : Option Addr) (c : Nat) (l : List S71) (n t : Int) (w0 w : World) (hI : StT w g a0 a1 a2 a3 (.slice A l.length c)) (hB : Below w0.heap.size w0 w) (hg : w0.heap.size ≤ g) (hR : Kd.R k71 71 w w0.heap.size (fun _ => True) (.slice A l.length c) l)
    (ht : throttle_state_total.f a0 a1 a2 a3 l = some t) (hn : ¬ wrap64 (t + n) > 1073741824) (hl : 0 < l.length) (hl2 : l.length ≤ 4096) (hlast : (rd_T71 l ((l.length : Int) - 1)).f0 = a2) :
    Calls Try.prog 33 #[.pointer (some ⟨g, 0, none⟩), .int .i64 n] w fun e' w' => e' = .returned (.int .i64 0) ∧ StT w' g a0 a1 a2 (wrap64 (a3 + n)) (.slice A l.length c) ∧ Kd.R k71 71 w' w0.heap.size (fun _ => True) (.slice A l.length c) (l.set (l.length - 1) ⟨(rd_T71 l ((l.length : Int) - 1)).f0, wrap64 (t + n)⟩) ∧ Below w0.heap.size w0 w' ∧ Kt w w' := by
  have hu73 := Try.underlying73
  have hu24 := Try.underlying24
  have hu71 := Try.underlying71
  obtain ⟨hc0, hc1, hc2, hc3, hc4, -, -, -, -, -⟩ := hI.cells
  obtain ⟨A', c', he, hlc, hC⟩ := Kd.R_reads hR
  obtain ⟨rfl, -, rfl⟩ : A' = A ∧ l.length = l.length ∧ c' = c := by injection he with h1 h2 h3; exact ⟨h1.symm, rfl, h3.symm⟩
  obtain ⟨gr, cap, he2, hgb, hglt, hcells⟩ := Kd.R_form hR hl
  obtain ⟨rfl, -, rfl⟩ : A' = some ⟨gr, 0, none⟩ ∧ l.length = l.length ∧ c' = cap := by injection he2 with h1 h2 h3; exact ⟨h1, rfl, h3⟩
  have HI := Aside0.mk hI
  have HB := Aside0.mk hB
  have HR := Aside0.mk hR
  have HC := Aside0.mk hC
  have HL := Aside0.mk hlc
  have H := Aside0.mk ht
  have HG := Aside0.mk hg
  have hnn : decide (1073741824 < wrap64 (t + n)) = false := decide_eq_false hn
  have hp : decide (0 < l.length) = true := decide_eq_true hl
  have hp1 : (0:Int) ≤ (l.length : Int) - 1 := by omega
  have hp2 : (l.length : Int) - 1 < (l.length : Int) := by omega
  have hw : wrap64 ((l.length : Int) - 1) = (l.length : Int) - 1 := by unfold wrap64; omega
  have HW := Aside0.mk hw
  have HT := Aside0.mk hlast
  clear hI hB hR hC ht he hlc hn he2 hg hw hlast hcells
  go_enter Try.func33, Try.ntmps33
  go_wp2_with fail
  refine (throttle_state_total.calls a0 a1 a2 a3 _ _ l t w HC.out HL.out H.out).mono ?_
  rintro e' w1 ⟨rfl, hb⟩
  have HB1 := Aside0.mk (below_then HB.out HB.out.size hb)
  have HK1 := Aside0.mk ((Kt.refl w).below hb)
  have HI1 := Aside0.mk (HI.out.below hb)
  have HR1 := Aside0.mk (Kd.R_below HR.out hb)
  have HC1 := Aside0.mk (Kd.C_below HC.out hb)
  clear hc0 hc1 hc2 hc3 hc4 hb HB HI HR HC
  obtain ⟨hc0, hc1, hc2, hc3, hc4, hf0, hf1, hf2, hf3, hf4⟩ := HI1.out.cells
  go_wp2
  obtain ⟨ji, hji⟩ : ∃ ji : Int, ji = (l.length : Int) - 1 := ⟨_, rfl⟩
  have hw : IntKind.i64.wrap ((l.length : Int) - 1) = ji := by rw [hji]; exact IntWalk.i64_in _ (by omega)
  rw [← hji] at hp1 hp2
  have HT := Aside0.mk (show (rd_T71 l ji).f0 = a2 by rw [hji]; exact HT.out)
  have HJ := Aside0.mk hji
  clear hji
  obtain ⟨ad, e, hx0, hx1⟩ := at_T71 HC1.out ji hp1 hp2
  cases e
  replace hx0 : w1.cell? ⟨gr, ji.toNat * 2, none⟩ = some (.int .i64 (rd_T71 l ji).f0) := by rw [Addr.add_lit, Nat.zero_add] at hx0; exact hx0
  replace hx1 : w1.cell? ⟨gr, ji.toNat * 2 + 1, none⟩ = some (.int .i64 (rd_T71 l ji).f1) := by rw [Addr.add_lit, Nat.zero_add] at hx1; exact hx1
  have hq : ((rd_T71 l ji).f0 == a2) = true := beq_iff_eq.2 HT.out
  replace hp1 := eq_true hp1
  replace hp2 := eq_true hp2
  go_quiet (fail)
  have HX0 := Aside0.mk hx0
  have HX1 := Aside0.mk hx1
  clear hx0 hx1 hq
  have HB2 := Aside0.mk (pw_below_drewN HB1.out nq)
  have HI2 := Aside0.mk (show StT (w1.drewN nq) g a0 a1 a2 a3 (.slice (some ⟨gr, 0, none⟩) l.length c') from HI1.out)
  have HR2 := Aside0.mk (Kd.R_drewN HR1.out nq)
  clear HB1 HI1 HR1
  have HK2 := Aside0.mk (show Kt w (w1.drewN nq) from HK1.out)
  clear HK1
  generalize w1.drewN nq = w2 at HB2 HI2 HR2 HK2 ⊢
  obtain ⟨hc0, hc1, hc2, hc3, hc4, hf0, hf1, hf2, hf3, hf4⟩ := HI2.out.cells
  have p93 : 0 ≤ ji := of_eq_true hp1
  have q93 : ji < (l.length : Int) := of_eq_true hp2
  obtain ⟨ce, hcl, hM, hcc, hfr⟩ := Kd.R_elem HR2.out z71 ji p93 q93
  obtain rfl := k71_openM hM
  have HP := Aside0.mk (Kd.R_seg HR2.out ji p93 q93 (seg := [.int .i64 (wrap64 (t + n))]) (j := 1) hcl hcc (show 2 ≤ 2 from by decide) (x' := (⟨(rd_T71 l ji).f0, (wrap64 (t + n))⟩ : S71)) (k71_mkM _ _ _ (⟨(rd_T71 l ji).f0, (wrap64 (t + n))⟩ : S71)) (fun _ hk => hk))
  have hx0 : w2.cell? ⟨gr, ji.toNat * 2, none⟩ = some (.int .i64 (rd_T71 l ji).f0) := hcc 0 _ rfl
  have hx1 : w2.cell? ⟨gr, ji.toNat * 2 + 1, none⟩ = some (.int .i64 (rd_T71 l ji).f1) := hcc 1 _ rfl
  have hf1' : w2.frozen? ⟨gr, ji.toNat * 2 + 1, none⟩ = false := hfr 1
  clear hcl hcc hfr hM p93 q93
  go_wp2_with (first | ((with_reducible refine gate_store (t := 3) (p := 50) rfl ?_); refine store_event (t := 3) (p := 50) (v := ?vo) (w1 := (w2.setCell ⟨gr, ji.toNat * 2 + 1, none⟩ (.int .i64 (wrap64 (t + n))))) ?hg ?ho ?hn ?hr ?_; (case ho => rfl); (case hg => rfl); (case hn => rfl); (case hr => first | (go_simp; done) | (go_simp; rfl)); intro w3 hw3; have HR3 : Aside0 (Kd.R k71 71 w3 w0.heap.size (fun _ => True) (.slice (some ⟨gr, 0, none⟩) l.length c') (l.set ji.toNat ⟨(rd_T71 l ji).f0, wrap64 (t + n)⟩)) := Aside0.mk (by rw [hw3]; exact HP.out.1); have HG3 : Aside0 (w2.grownBy w3 (some gr)) := Aside0.mk (by rw [hw3]; exact HP.out.2); have HI3 : Aside0 (StT w3 g a0 a1 a2 a3 (.slice (some ⟨gr, 0, none⟩) l.length c')) := Aside0.mk (blk_grown HI2.out HG3.out (Kd.R_ne HR2.out HI2.out (by decide))); have HB3 : Aside0 (Below w0.heap.size w0 w3) := Aside0.mk (by rw [hw3]; exact below_set HB2.out hgb); have HK3 : Aside0 (Kt w w3) := Aside0.mk (HK2.out.grown HG3.out (fun k cs hk => Kd.R_ne HR2.out hk (by decide))); clear HP HR2 HI2 HB2 HK2 HG3 hw3 hc0 hc1 hc2 hc3 hc4 hf0 hf1 hf2 hf3 hf4 hx0 hx1 hf1'; obtain ⟨hc0, hc1, hc2, hc3, hc4, hf0, hf1, hf2, hf3, hf4⟩ := HI3.out.cells))
  go_ret
  have hset : Kd.R k71 71 w3 w0.heap.size (fun _ => True) (.slice (some ⟨gr, 0, none⟩) l.length c') (l.set (l.length - 1) ⟨(rd_T71 l ((l.length : Int) - 1)).f0, wrap64 (t + n)⟩) := by
    have h := HR3.out
    rw [HJ.out, show ((l.length : Int) - 1).toNat = l.length - 1 by omega] at h
    exact h
  refine ⟨rfl, blk_put HI3.out 3 _ rfl, ?_, below_set HB3.out HG.out, HK3.out.set HI3.out (by decide) 3 _⟩
  exact Kd.R_mono (Kd.R_far (p := ⟨g, 3, none⟩) (Kd.R_types hset HI3.out (by decide)) (fun _ hk => hk.2) _) (fun _ _ => trivial)

def IfLe (n m : Nat) (A B : Prop) : Prop := if n ≤ m then A else B
theorem IfLe.yes {n m : Nat} {A B : Prop} (h : n ≤ m) (a : A) : IfLe n m A B := by unfold IfLe; rw [if_pos h]; exact a
theorem IfLe.no {n m : Nat} {A B : Prop} (h : ¬ n ≤ m) (b : B) : IfLe n m A B := by unfold IfLe; rw [if_neg h]; exact b
theorem built_ {P : Program} {ops : Array Oper} {Q : Exit → Act → World → Prop} {oi : Oper} {N : Option Tmp} {a : Act} {w : World} {K : Act → World → Prop} (c : Array Value) (t : TypeId) (m : Nat) (hw : Region.wanted oi (yielded ops a.tmps) = true) (hN : oi.dst = N)
    (hrun : (execOp a.eval oi).run P w = .ok (.value (.slice (some ⟨w.heap.size, 0, none⟩) m m)) (w.alloc (.cells c t (0, 0))))
    (h : ∀ b w1, w1.heap[b]? = some (.cells c t (0, 0)) → Below w.heap.size w w1 → K (a.put N (.slice (some ⟨b, 0, none⟩) m m)) w1) : if Region.wanted oi (yielded ops a.tmps) = true then Oper.wp P oi a w K Q else K (a.put N undef) w :=
  value_ hw hN hrun (h _ _ (blk_new w _) (below_alloc (Below.refl _ _) _))
section
variable {P : Program} {ops : Array Oper} {rest : List Oper} {o : Oper} {a : Act} {Q' : Exit → Act → World → Prop} {Kc : Act → World → Prop} {α : Type}
/-- An append of one element that lies in a block b of its own to a row of one's own that may begin inside its block, at a step of a region that draws its order. -/
theorem Q_append_at_step (d : Kd α) {w0 W : World} (base : Nat) (hw : Region.wanted o (yielded ops a.tmps) = true) (s x : Operand) (t e : TypeId) (z : Value) (bytes : Nat)
    (ho : o.op = .call { callee := .builtin .append, args := #[s, x], argTypes := #[t, t] })
    (ht : P.underlying t = some (.slice e)) (hinfo : (P.info? e).map (fun i => (i.zero, i.size, i.bytes)) = some (some z, d.sz, bytes)) (hz : z.cells.size = d.sz) (hs0 : 0 < d.sz) (hb0 : 0 < bytes)
    (v : Value) (xs : List α) (p : α) (cs : List Value) (b : Nat) (ok okp : Nat → Prop) (hs : a.eval s = v) (hx : a.eval x = .slice (some ⟨b, 0, none⟩) 1 1) (hblk : W.heap[b]? = some (.cells cs.toArray e (0, 0))) (hp : d.M W base okp p cs) (hokp : ∀ k, okp k → ok k ∧ some k ≠ v.ownBlock) (hfresh : ∀ k, W.heap.size ≤ k → ok k)
    (HO : d.Q e W base ok v xs) (HB : Below base w0 W) (hbase : base ≤ W.heap.size) (hl : (xs.length + 1) * bytes ≤ 140737488355328)
    (h : ∀ v1 w1, d.Q e w1 base ok v1 (xs ++ [p]) → Below base w0 w1 → W.grownBy w1 v.ownBlock → (v1.ownBlock = v.ownBlock ∨ ∃ b, v1.ownBlock = some b ∧ W.heap.size ≤ b) → Kc (a.put o.dst v1) w1) :
    if Region.wanted o (yielded ops a.tmps) = true then Oper.wp P o a W Kc Q' else Kc (a.put o.dst undef) W := by
  obtain ⟨h0, inner, hown, hr⟩ := HO
  obtain ⟨i0, hi, hzz⟩ := Option.map_eq_some_iff.1 hinfo
  simp only [Prod.mk.injEq] at hzz
  obtain ⟨hz0, hz1, hz2⟩ := hzz
  have hlen : xs.length + 1 ≤ 140737488355328 := Nat.le_trans (Nat.le_mul_of_pos_right _ hb0) hl
  have hcl := d.K_len (d.K_of_M hp)
  obtain ⟨v1, w1, hrun, hq1, hg, hat⟩ := q_append (P := P) W base t o.type e i0 z d.sz bytes ht hi hz0 hz1 hz2 hz hs0 v xs.length inner hown ⟨b, 0, none⟩ 1 1 cs (by rw [hcl, Nat.one_mul])
    (by simpa using World.news_of_block (cs := cs.toArray) (t := e) (fr := (0, 0)) hblk) (d.K_one (d.K_of_M hp)) (by omega) (by simp only [maxLen]; omega) hl hbase
  rw [if_pos hw]
  unfold Oper.wp execOp
  simp only [ho, resolve, invoke, builtin, Sem.run_bind, Sem.run_pure, Result.andThen_ok, List.map_toArray, List.map_cons, List.map_nil, hs, hx, hrun]
  exact h v1 w1 (Kd.Q_appended h0 hr hp hokp hfresh hq1 hg hat) (HB.grown hg hbase (fun k hk => (q_typed hown k hk).1)) hg hat
end

set_option maxHeartbeats 16000000 in
set_option maxRecDepth 100000 in
theorem admit_app (g : Nat) (a0 a1 a2 a3 : Int) (A : Option Addr) (c : Nat) (l : List S71) (n t cf o : Int) (w0 w : World) (hI : StT w g a0 a1 a2 a3 (.slice A l.length c)) (hB : Below w0.heap.size w0 w) (hg : w0.heap.size ≤ g) (hR : Kd.R k71 71 w w0.heap.size (fun _ => True) (.slice A l.length c) l)
    (ht : throttle_state_total.f a0 a1 a2 a3 l = some t) (hn : ¬ wrap64 (t + n) > 1073741824) (hl2 : l.length ≤ 4096) (hlast : l.length = 0 ∨ 0 < l.length ∧ (rd_T71 l ((l.length : Int) - 1)).f0 ≠ a2)
    (hcf : throttle_state_confirmed.f a0 a1 a2 a3 l = some cf) (ho : throttle_state_open.f a0 a1 a2 a3 l cf = some o) (ho0 : 0 ≤ o) (ho1 : o ≤ l.length) :
    Calls Try.prog 33 #[.pointer (some ⟨g, 0, none⟩), .int .i64 n] w fun e' w' => IfLe (l.drop o.toNat ++ [(⟨a2, wrap64 (t + n)⟩ : S71)]).length 4096 (∃ v, e' = .returned (.int .i64 0) ∧ StT w' g a0 a1 a2 (wrap64 (a3 + n)) v ∧ Kd.Q k71 71 w' w0.heap.size (fun _ => True) v (l.drop o.toNat ++ [(⟨a2, wrap64 (t + n)⟩ : S71)]) ∧ Below w0.heap.size w0 w' ∧ Kt w w') (e' = .returned (.int .i64 11) ∧ Below w0.heap.size w0 w' ∧ Kt w w') := by
  have hu73 := Try.underlying73
  have hu24 := Try.underlying24
  have hu71 := Try.underlying71
  obtain ⟨hc0, hc1, hc2, hc3, hc4, -, -, -, -, -⟩ := hI.cells
  obtain ⟨A', c', he, hlc, hC⟩ := Kd.R_reads hR
  obtain ⟨rfl, -, rfl⟩ : A = A' ∧ l.length = l.length ∧ c = c' := by injection he with h1 h2 h3; exact ⟨h1, rfl, h3⟩
  obtain ⟨i71, hi71, hi71'⟩ := Option.map_eq_some_iff.1 info71
  have hcut0 := cut_from 22 71 .i64 Try.underlying22 hi71 2 (by simp only [Prod.mk.injEq] at hi71'; exact hi71'.2.1) A l.length c o ho0 ho1
  have hqc : ∀ W, Kd.R k71 71 W w0.heap.size (fun _ => True) (.slice A l.length c) l → Kd.Q k71 71 W w0.heap.size (fun _ => True) (.slice (if c = o.toNat then A else A.map (·.add (o.toNat * 2))) (l.length - o.toNat) (c - o.toNat)) (l.drop o.toNat) := fun W h => Kd.Q_drop (Kd.Q_of_R h) (by omega)
  obtain ⟨vc, hvc⟩ : ∃ vc : Value, vc = .slice (if c = o.toNat then A else A.map (·.add (o.toNat * 2))) (l.length - o.toNat) (c - o.toNat) := ⟨_, rfl⟩
  rw [← hvc] at hcut0
  have HQC : ∀ W, Kd.R k71 71 W w0.heap.size (fun _ => True) (.slice A l.length c) l → Kd.Q k71 71 W w0.heap.size (fun _ => True) vc (l.drop o.toNat) := fun W h => by rw [hvc]; exact hqc W h
  clear hvc hqc hi71 hi71'
  have HCUT := Aside0.mk hcut0
  have HI := Aside0.mk hI
  have HB := Aside0.mk hB
  have HR := Aside0.mk hR
  have HC := Aside0.mk hC
  have HL := Aside0.mk hlc
  have H := Aside0.mk ht
  have HG := Aside0.mk hg
  have HCF := Aside0.mk hcf
  have HO := Aside0.mk ho
  have HSZ : Aside0 (((l.drop o.toNat).length + 1) * 16 ≤ 140737488355328) := ⟨by rw [List.length_drop]; omega⟩
  have hnn : decide (1073741824 < wrap64 (t + n)) = false := decide_eq_false hn
  have HLAST := Aside0.mk hlast
  have HO0 := Aside0.mk ho0
  have HO1 := Aside0.mk ho1
  have HQA := Aside0.mk HQC
  clear hI hB hR hC ht he hlc hn hg hlast hcf ho ho0 ho1 hcut0 HQC
  go_enter Try.func33, Try.ntmps33
  go_wp2_with fail
  refine (throttle_state_total.calls a0 a1 a2 a3 _ _ l t w HC.out HL.out H.out).mono ?_
  rintro e' w1 ⟨rfl, hb⟩
  have HB1 := Aside0.mk (below_then HB.out HB.out.size hb)
  have HK1 := Aside0.mk ((Kt.refl w).below hb)
  have HI1 := Aside0.mk (HI.out.below hb)
  have HR1 := Aside0.mk (Kd.R_below HR.out hb)
  have HC1 := Aside0.mk (Kd.C_below HC.out hb)
  clear hc0 hc1 hc2 hc3 hc4 hb HB HI HR HC
  obtain ⟨hc0, hc1, hc2, hc3, hc4, hf0, hf1, hf2, hf3, hf4⟩ := HI1.out.cells
  have hcase : (decide (0 < l.length) = false) ∨ (decide (0 < l.length) = true ∧ 0 < l.length ∧ (rd_T71 l ((l.length : Int) - 1)).f0 ≠ a2) := by
    rcases HLAST.out with h | ⟨h, h'⟩
    · exact .inl (decide_eq_false (by omega))
    · exact .inr ⟨decide_eq_true h, h, h'⟩
  rcases hcase with hp | ⟨hp, hl, hlast⟩
  focus
    go_wp2
    go_quiet (fail)
  rotate_left
  focus
    have hp1 : (0:Int) ≤ (l.length : Int) - 1 := by omega
    have hp2 : (l.length : Int) - 1 < (l.length : Int) := by omega
    obtain ⟨ji, hji⟩ : ∃ ji : Int, ji = (l.length : Int) - 1 := ⟨_, rfl⟩
    have hw : IntKind.i64.wrap ((l.length : Int) - 1) = ji := by rw [hji]; exact IntWalk.i64_in _ (by omega)
    rw [← hji] at hp1 hp2 hlast
    have HT := Aside0.mk hlast
    have HJ := Aside0.mk hji
    clear hji hlast
    go_wp2
    obtain ⟨ad, e, hx0, hx1⟩ := at_T71 HC1.out ji hp1 hp2
    obtain ⟨gr, cap, he2, -, -, -⟩ := Kd.R_form HR1.out hl
    obtain rfl : ad = ⟨gr, 0, none⟩ := by rw [e] at he2; injection he2 with h1; injection h1
    replace hx0 : w1.cell? ⟨gr, ji.toNat * 2, none⟩ = some (.int .i64 (rd_T71 l ji).f0) := by rw [Addr.add_lit, Nat.zero_add] at hx0; exact hx0
    replace hx1 : w1.cell? ⟨gr, ji.toNat * 2 + 1, none⟩ = some (.int .i64 (rd_T71 l ji).f1) := by rw [Addr.add_lit, Nat.zero_add] at hx1; exact hx1
    have hq : ((rd_T71 l ji).f0 == a2) = false := beq_eq_false_iff_ne.2 HT.out
    replace hp1 := eq_true hp1
    replace hp2 := eq_true hp2
    rw [e] at hc4
    clear he2 e
    go_quiet (fail)
    clear hx0 hx1 hq hw hp1 hp2 HT HJ hl
  all_goals
    have HB2 := Aside0.mk (pw_below_drewN HB1.out nq)
    have HI2 := Aside0.mk (show StT (w1.drewN nq) g a0 a1 a2 a3 _ from HI1.out)
    have HR2 := Aside0.mk (Kd.R_drewN HR1.out nq)
    clear HB1 HI1 HR1 HC1 hc0 hc1 hc2 hc3 hc4 hf0 hf1 hf2 hf3 hf4
    have HK2 := Aside0.mk (show Kt w (w1.drewN nq) from HK1.out)
    clear HK1
    generalize w1.drewN nq = w2 at HB2 HI2 HR2 HK2 ⊢
    obtain ⟨hc0, hc1, hc2, hc3, hc4, hf0, hf1, hf2, hf3, hf4⟩ := HI2.out.cells
    clear HLAST
    go_wp2
    have hcut := HCUT.out
    have HQC := HQA.out
    clear HQA
    clear hc0 hc1 hc2 hc3 hc4 hf0 hf1 hf2 hf3 hf4 hp
    refine start_ (n := 28) (S := fun w' => w'.cell? ⟨g, 0, none⟩ = some (.int .i64 a0) ∧ w'.cell? ⟨g, 1, none⟩ = some (.int .i64 a1) ∧ w'.cell? ⟨g, 2, none⟩ = some (.int .i64 a2) ∧ w'.cell? ⟨g, 3, none⟩ = some (.int .i64 a3) ∧ w'.cell? ⟨g, 4, none⟩ = some (.slice A l.length c) ∧ Aside0 (StT w' g a0 a1 a2 a3 (.slice A l.length c)) ∧ Aside0 (Kd.R k71 71 w' w0.heap.size (fun _ => True) (.slice A l.length c) l) ∧ Aside0 (Below w0.heap.size w0 w') ∧ Aside0 (Kt w w')) (ds := [23, 27]) #[false, false, false, false, false, false, false, false, false, false, false, false, false, false, false, false, false, false, false, false, false, false, false, false, false, false, false, false] (by kernel_rfl) rfl rfl ⟨HI2.out.cells.1, HI2.out.cells.2.1, HI2.out.cells.2.2.1, HI2.out.cells.2.2.2.1, HI2.out.cells.2.2.2.2.1, ⟨HI2.out⟩, ⟨Kd.R_drewN HR2.out 1⟩, ⟨pw_below_drewN HB2.out 1⟩, ⟨HK2.out⟩⟩ (fun hHeld => ?_)
    refine pure_ (i := 0) (N := some 51) (v := ?_) (a' := ?_) #[true, false, false, false, false, false, false, false, false, false, false, false, false, false, false, false, false, false, false, false, false, false, false, false, false, false, false, false] rfl rfl (by kernel_rfl) (fun _ _ _ h => h) (Or.inl ⟨by rfl, ?_⟩) ?_ ?_
    rotate_left
    · intro w'
      go_simp
      with_reducible rfl
    rotate_left
    · simp only [Act.put, List.setIfInBounds_toArray, List.set_cons_zero, List.set_cons_succ, i64_w, i32_w]
      rfl
    refine pure_ (i := 1) (N := some 52) (v := ?_) (a' := ?_) #[true, true, false, false, false, false, false, false, false, false, false, false, false, false, false, false, false, false, false, false, false, false, false, false, false, false, false, false] rfl rfl (by kernel_rfl) (fun _ _ _ h => h) (Or.inl ⟨by rfl, ?_⟩) ?_ ?_
    rotate_left
    · intro w'
      go_simp
      with_reducible rfl
    rotate_left
    · simp only [Act.put, List.setIfInBounds_toArray, List.set_cons_zero, List.set_cons_succ, i64_w, i32_w]
      rfl
    refine pure_ (i := 2) (N := some 53) (v := ?_) (a' := ?_) #[true, true, true, false, false, false, false, false, false, false, false, false, false, false, false, false, false, false, false, false, false, false, false, false, false, false, false, false] rfl rfl (by kernel_rfl) (fun _ _ _ h => h) (Or.inl ⟨by rfl, ?_⟩) ?_ ?_
    rotate_left
    · intro w'
      go_simp
      with_reducible rfl
    rotate_left
    · simp only [Act.put, List.setIfInBounds_toArray, List.set_cons_zero, List.set_cons_succ, i64_w, i32_w]
      rfl
    refine pure_ (i := 3) (N := some 54) (v := ?_) (a' := ?_) #[true, true, true, true, false, false, false, false, false, false, false, false, false, false, false, false, false, false, false, false, false, false, false, false, false, false, false, false] rfl rfl (by kernel_rfl) (fun _ _ _ h => h) (Or.inl ⟨by rfl, ?_⟩) ?_ ?_
    rotate_left
    · intro w'
      go_simp
      with_reducible rfl
    rotate_left
    · simp only [Act.put, List.setIfInBounds_toArray, List.set_cons_zero, List.set_cons_succ, i64_w, i32_w]
      rfl
    refine pure_ (i := 4) (N := some 55) (v := ?_) (a' := ?_) #[true, true, true, true, true, false, false, false, false, false, false, false, false, false, false, false, false, false, false, false, false, false, false, false, false, false, false, false] rfl rfl (by kernel_rfl) (fun _ _ _ h => h) (Or.inl ⟨by rfl, ?_⟩) ?_ ?_
    rotate_left
    · intro w'
      go_simp
      with_reducible rfl
    rotate_left
    · simp only [Act.put, List.setIfInBounds_toArray, List.set_cons_zero, List.set_cons_succ, i64_w, i32_w]
      rfl
    refine pure_ (i := 6) (N := some 57) (v := ?_) (a' := ?_) #[true, true, true, true, true, false, true, false, false, false, false, false, false, false, false, false, false, false, false, false, false, false, false, false, false, false, false, false] rfl rfl (by kernel_rfl) (fun _ _ _ h => h) (Or.inl ⟨by rfl, ?_⟩) ?_ ?_
    rotate_left
    · intro w'
      go_simp
      with_reducible rfl
    rotate_left
    · simp only [Act.put, List.setIfInBounds_toArray, List.set_cons_zero, List.set_cons_succ, i64_w, i32_w]
      rfl
    refine pure_ (i := 7) (N := some 58) (v := ?_) (a' := ?_) #[true, true, true, true, true, false, true, true, false, false, false, false, false, false, false, false, false, false, false, false, false, false, false, false, false, false, false, false] rfl rfl (by kernel_rfl) (fun _ _ _ h => h) (Or.inl ⟨by rfl, ?_⟩) ?_ ?_
    rotate_left
    · intro w'
      go_simp
      with_reducible rfl
    rotate_left
    · simp only [Act.put, List.setIfInBounds_toArray, List.set_cons_zero, List.set_cons_succ, i64_w, i32_w]
      rfl
    refine pure_ (i := 9) (N := some 60) (v := ?_) (a' := ?_) #[true, true, true, true, true, false, true, true, false, true, false, false, false, false, false, false, false, false, false, false, false, false, false, false, false, false, false, false] rfl rfl (by kernel_rfl) (fun _ _ _ h => h) (Or.inl ⟨by rfl, ?_⟩) ?_ ?_
    rotate_left
    · intro w'
      go_simp
      with_reducible rfl
    rotate_left
    · simp only [Act.put, List.setIfInBounds_toArray, List.set_cons_zero, List.set_cons_succ, i64_w, i32_w]
      rfl
    refine pure_ (i := 10) (N := some 61) (v := ?_) (a' := ?_) #[true, true, true, true, true, false, true, true, false, true, true, false, false, false, false, false, false, false, false, false, false, false, false, false, false, false, false, false] rfl rfl (by kernel_rfl) (fun _ _ _ h => h) (Or.inl ⟨by rfl, ?_⟩) ?_ ?_
    rotate_left
    · intro w'
      go_simp
      with_reducible rfl
    rotate_left
    · simp only [Act.put, List.setIfInBounds_toArray, List.set_cons_zero, List.set_cons_succ, i64_w, i32_w]
      rfl
    refine pure_ (i := 15) (N := some 66) (v := ?_) (a' := ?_) #[true, true, true, true, true, false, true, true, false, true, true, false, false, false, false, true, false, false, false, false, false, false, false, false, false, false, false, false] rfl rfl (by kernel_rfl) (fun _ _ _ h => h) (Or.inl ⟨by rfl, ?_⟩) ?_ ?_
    rotate_left
    · intro w'
      go_simp
      with_reducible rfl
    rotate_left
    · simp only [Act.put, List.setIfInBounds_toArray, List.set_cons_zero, List.set_cons_succ, i64_w, i32_w]
      rfl
    refine pure_ (i := 16) (N := some 67) (v := ?_) (a' := ?_) #[true, true, true, true, true, false, true, true, false, true, true, false, false, false, false, true, true, false, false, false, false, false, false, false, false, false, false, false] rfl rfl (by kernel_rfl) (fun _ _ _ h => h) (Or.inl ⟨by rfl, ?_⟩) ?_ ?_
    rotate_left
    · intro w'
      go_simp
      with_reducible rfl
    rotate_left
    · simp only [Act.put, List.setIfInBounds_toArray, List.set_cons_zero, List.set_cons_succ, i64_w, i32_w]
      rfl
    refine pure_ (i := 17) (N := some 68) (v := ?_) (a' := ?_) #[true, true, true, true, true, false, true, true, false, true, true, false, false, false, false, true, true, true, false, false, false, false, false, false, false, false, false, false] rfl rfl (by kernel_rfl) (fun _ _ _ h => h) (Or.inl ⟨by rfl, ?_⟩) ?_ ?_
    rotate_left
    · intro w'
      go_simp
      with_reducible rfl
    rotate_left
    · simp only [Act.put, List.setIfInBounds_toArray, List.set_cons_zero, List.set_cons_succ, i64_w, i32_w]
      rfl
    refine pure_ (i := 18) (N := some 69) (v := ?_) (a' := ?_) #[true, true, true, true, true, false, true, true, false, true, true, false, false, false, false, true, true, true, true, false, false, false, false, false, false, false, false, false] rfl rfl (by kernel_rfl) (fun _ _ _ h => h) (Or.inl ⟨by rfl, ?_⟩) ?_ ?_
    rotate_left
    · intro w'
      go_simp
      with_reducible rfl
    rotate_left
    · simp only [Act.put, List.setIfInBounds_toArray, List.set_cons_zero, List.set_cons_succ, i64_w, i32_w]
      rfl
    refine pure_ (i := 20) (N := some 71) (v := ?_) (a' := ?_) #[true, true, true, true, true, false, true, true, false, true, true, false, false, false, false, true, true, true, true, false, true, false, false, false, false, false, false, false] rfl rfl (by kernel_rfl) (fun _ _ _ h => h) (Or.inl ⟨by rfl, ?_⟩) ?_ ?_
    rotate_left
    · intro w'
      go_simp
      with_reducible rfl
    rotate_left
    · simp only [Act.put, List.setIfInBounds_toArray, List.set_cons_zero, List.set_cons_succ, i64_w, i32_w]
      rfl
    refine take_ (i := 5) (N := some 56) (v := ?_) (a' := ?_) #[true, true, true, true, true, true, true, true, false, true, true, false, false, false, false, true, true, true, true, false, true, false, false, false, false, false, false, false] rfl rfl (by kernel_rfl) (fun _ _ _ h => h) (Or.inl ⟨by rfl, ?_⟩) hHeld ?_ ?_
    rotate_left
    · rintro w' ⟨s0, s1, s2, s3, s4, s5, s6, s7, s8⟩
      go_simp
      with_reducible rfl
    rotate_left
    · simp only [Act.put, List.setIfInBounds_toArray, List.set_cons_zero, List.set_cons_succ, i64_w, i32_w]
      rfl
    refine take_ (i := 8) (N := some 59) (v := ?_) (a' := ?_) #[true, true, true, true, true, true, true, true, true, true, true, false, false, false, false, true, true, true, true, false, true, false, false, false, false, false, false, false] rfl rfl (by kernel_rfl) (fun _ _ _ h => h) (Or.inl ⟨by rfl, ?_⟩) hHeld ?_ ?_
    rotate_left
    · rintro w' ⟨s0, s1, s2, s3, s4, s5, s6, s7, s8⟩
      go_simp
      with_reducible rfl
    rotate_left
    · simp only [Act.put, List.setIfInBounds_toArray, List.set_cons_zero, List.set_cons_succ, i64_w, i32_w]
      rfl
    refine take_ (i := 11) (N := some 62) (v := ?_) (a' := ?_) #[true, true, true, true, true, true, true, true, true, true, true, true, false, false, false, true, true, true, true, false, true, false, false, false, false, false, false, false] rfl rfl (by kernel_rfl) (fun _ _ _ h => h) (Or.inl ⟨by rfl, ?_⟩) hHeld ?_ ?_
    rotate_left
    · rintro w' ⟨s0, s1, s2, s3, s4, s5, s6, s7, s8⟩
      go_simp
      with_reducible rfl
    rotate_left
    · simp only [Act.put, List.setIfInBounds_toArray, List.set_cons_zero, List.set_cons_succ, i64_w, i32_w]
      rfl
    refine take_ (i := 19) (N := some 70) (v := ?_) (a' := ?_) #[true, true, true, true, true, true, true, true, true, true, true, true, false, false, false, true, true, true, true, true, true, false, false, false, false, false, false, false] rfl rfl (by kernel_rfl) (fun _ _ _ h => h) (Or.inl ⟨by rfl, ?_⟩) hHeld ?_ ?_
    rotate_left
    · rintro w' ⟨s0, s1, s2, s3, s4, s5, s6, s7, s8⟩
      go_simp
      with_reducible rfl
    rotate_left
    · simp only [Act.put, List.setIfInBounds_toArray, List.set_cons_zero, List.set_cons_succ, i64_w, i32_w]
      rfl
    refine pure_ (i := 21) (N := some 72) (v := ?_) (a' := ?_) #[true, true, true, true, true, true, true, true, true, true, true, true, false, false, false, true, true, true, true, true, true, true, false, false, false, false, false, false] rfl rfl (by kernel_rfl) (fun _ _ _ h => h) (Or.inl ⟨by rfl, ?_⟩) ?_ ?_
    rotate_left
    · intro w'
      go_simp
      with_reducible rfl
    rotate_left
    · simp only [Act.put, List.setIfInBounds_toArray, List.set_cons_zero, List.set_cons_succ, i64_w, i32_w]
      rfl
    refine two_ (i := 12) (j := 22) (Ni := some 63) (Nj := some 73) #[true, true, true, true, true, true, true, true, true, true, true, true, true, false, false, true, true, true, true, true, true, true, false, false, false, false, false, false] #[true, true, true, true, true, true, true, true, true, true, true, true, false, false, false, true, true, true, true, true, true, true, true, false, false, false, false, false] rfl rfl rfl rfl (by kernel_rfl) (by decide) (by decide) (fun K hK => ?_) (fun K hK => ?_)
    · skip
      obtain ⟨A', c', he, hlc, hC⟩ := Kd.R_reads hHeld.2.2.2.2.2.2.1.out
      obtain ⟨rfl, -, rfl⟩ : A = A' ∧ l.length = l.length ∧ c = c' := (by injection he with h1 h2 h3; exact ⟨h1, rfl, h3⟩)
      refine goes_ Try.func30 (by kernel_rfl) rfl #[.agg #[.int .i64 a0, .int .i64 a1, .int .i64 a2, .int .i64 a3, .slice A l.length c]] (by rfl) rfl rfl (by simp only [List.map_toArray, List.map_cons, List.map_nil]; rfl) ?_
      with_reducible refine (throttle_state_confirmed.calls a0 a1 a2 a3 _ _ l cf _ hC hlc HCF.out).mono ?_
      clear he hC
      rintro e w3 ⟨rfl, hb⟩
      refine ⟨_, rfl, ?_⟩
      have HS := hHeld; clear hHeld; obtain ⟨-, -, -, -, -, HI5, HR5, HB5, HK5⟩ := HS
      have HI6 := Aside0.mk (HI5.out.below hb); have HR6 := Aside0.mk (Kd.R_below HR5.out hb); have HB6 := Aside0.mk (below_then HB5.out HB5.out.size hb); have HK6 := Aside0.mk (HK5.out.below hb)
      clear HI5 HR5 HB5 HK5 hb
      refine hK.out _ _ ⟨HI6.out.cells.1, HI6.out.cells.2.1, HI6.out.cells.2.2.1, HI6.out.cells.2.2.2.1, HI6.out.cells.2.2.2.2.1, HI6, HR6, HB6, HK6⟩ (fun hHeld => ?_)
      clear hK K
      refine norm_ (a' := ?_) ?_ ?_
      rotate_left
      · show Act.put _ (some 63) _ = _
        simp only [Act.put, List.setIfInBounds_toArray, List.set_cons_zero, List.set_cons_succ, i64_w, i32_w]
        rfl
      refine two_ (i := 13) (j := 22) (Ni := some 64) (Nj := some 73) #[true, true, true, true, true, true, true, true, true, true, true, true, true, true, false, true, true, true, true, true, true, true, false, false, false, false, false, false] #[true, true, true, true, true, true, true, true, true, true, true, true, true, false, false, true, true, true, true, true, true, true, true, false, false, false, false, false] rfl rfl rfl rfl (by kernel_rfl) (by decide) (by decide) (fun K hK => ?_) (fun K hK => ?_)
      · skip
        obtain ⟨A', c', he, hlc, hC⟩ := Kd.R_reads hHeld.2.2.2.2.2.2.1.out
        obtain ⟨rfl, -, rfl⟩ : A = A' ∧ l.length = l.length ∧ c = c' := (by injection he with h1 h2 h3; exact ⟨h1, rfl, h3⟩)
        refine goes_ Try.func29 (by kernel_rfl) rfl #[.agg #[.int .i64 a0, .int .i64 a1, .int .i64 a2, .int .i64 a3, .slice A l.length c], .int .i64 cf] (by rfl) rfl rfl (by simp only [List.map_toArray, List.map_cons, List.map_nil]; rfl) ?_
        with_reducible refine (throttle_state_open.calls a0 a1 a2 a3 _ _ l cf o _ hC hlc HO.out).mono ?_
        clear he hC
        rintro e w4 ⟨rfl, hb⟩
        refine ⟨_, rfl, ?_⟩
        have HS := hHeld; clear hHeld; obtain ⟨-, -, -, -, -, HI5, HR5, HB5, HK5⟩ := HS
        have HI6 := Aside0.mk (HI5.out.below hb); have HR6 := Aside0.mk (Kd.R_below HR5.out hb); have HB6 := Aside0.mk (below_then HB5.out HB5.out.size hb); have HK6 := Aside0.mk (HK5.out.below hb)
        clear HI5 HR5 HB5 HK5 hb
        refine hK.out _ _ ⟨HI6.out.cells.1, HI6.out.cells.2.1, HI6.out.cells.2.2.1, HI6.out.cells.2.2.2.1, HI6.out.cells.2.2.2.2.1, HI6, HR6, HB6, HK6⟩ (fun hHeld => ?_)
        clear hK K
        refine norm_ (a' := ?_) ?_ ?_
        rotate_left
        · show Act.put _ (some 64) _ = _
          simp only [Act.put, List.setIfInBounds_toArray, List.set_cons_zero, List.set_cons_succ, i64_w, i32_w]
          rfl
        refine pure_ (i := 14) (N := some 65) (v := ?_) (a' := ?_) #[true, true, true, true, true, true, true, true, true, true, true, true, true, true, true, true, true, true, true, true, true, true, false, false, false, false, false, false] rfl rfl (by kernel_rfl) (fun _ _ _ h => h) (Or.inl ⟨by rfl, ?_⟩) ?_ ?_
        rotate_left
        · intro w'
          go_simp
          with_reducible rfl
        rotate_left
        · simp only [Act.put, List.setIfInBounds_toArray, List.set_cons_zero, List.set_cons_succ, i64_w, i32_w]
          rfl
        refine one_ (i := 22) (N := some 73) #[true, true, true, true, true, true, true, true, true, true, true, true, true, true, true, true, true, true, true, true, true, true, true, false, false, false, false, false] rfl rfl (by kernel_rfl) (by decide) (fun K hK => ?_)
        refine built_ #[.int .i64 a2, .int .i64 (wrap64 (t + n))] 71 1 (by rfl) rfl ?_ ?_
        · first | (go_simp; done) | (go_simp; rfl)
        intro b w5 hN hb
        have HN := Aside0.mk hN; clear hN
        have HS := hHeld; clear hHeld; obtain ⟨-, -, -, -, -, HI5, HR5, HB5, HK5⟩ := HS
        have HI6 := Aside0.mk (HI5.out.below hb); have HR6 := Aside0.mk (Kd.R_below HR5.out hb); have HB6 := Aside0.mk (below_then HB5.out HB5.out.size hb); have HK6 := Aside0.mk (HK5.out.below hb)
        clear HI5 HR5 HB5 HK5 hb
        refine hK.out _ _ ⟨HI6.out.cells.1, HI6.out.cells.2.1, HI6.out.cells.2.2.1, HI6.out.cells.2.2.2.1, HI6.out.cells.2.2.2.2.1, HI6, HR6, HB6, HK6⟩ (fun hHeld => ?_)
        clear hK K
        refine norm_ (a' := ?_) ?_ ?_
        rotate_left
        · show Act.put _ (some 73) _ = _
          simp only [Act.put, List.setIfInBounds_toArray, List.set_cons_zero, List.set_cons_succ, i64_w, i32_w]
          rfl
        refine last_ (i := 23) (N := some 74) #[true, true, true, true, true, true, true, true, true, true, true, true, true, true, true, true, true, true, true, true, true, true, true, true, false, false, false, false] rfl rfl (by kernel_rfl) (by decide) (fun K hK => ?_)
        have HS := hHeld; clear hHeld; obtain ⟨-, -, -, -, -, HI5, HR5, HB5, HK5⟩ := HS
        refine Q_append_at_step k71 (w0 := w0) w0.heap.size (by rfl) (.tmp 65) (.tmp 73) 22 71 (.agg #[(.int .i64 0), (.int .i64 0)]) 16 rfl Try.underlying22 info71 rfl (by decide) (by decide) vc (l.drop o.toNat) (⟨a2, wrap64 (t + n)⟩ : S71) [.int .i64 a2, .int .i64 (wrap64 (t + n))] b (fun _ => True) (fun _ => False) rfl rfl HN.out (k71_mkM _ _ _ (⟨a2, wrap64 (t + n)⟩ : S71)) (fun _ hk => hk.elim) (fun _ _ => trivial) (HQC _ HR5.out) HB5.out HB5.out.size HSZ.out ?_
        intro v1 w6 hq hb6 hg6 ha6
        obtain ⟨A1, nn, c1, rfl, hn1⟩ : ∃ A1 n1 c1, v1 = .slice A1 n1 c1 ∧ n1 = (l.drop o.toNat ++ [(⟨a2, wrap64 (t + n)⟩ : S71)]).length := (by obtain ⟨A1, c1, h, _⟩ := Kd.Q_slice hq; exact ⟨A1, _, c1, h, rfl⟩)
        have HNN := Aside0.mk hn1; clear hn1
        have HQ6 := Aside0.mk hq; have HB6 := Aside0.mk hb6
        have HI6 := Aside0.mk (show StT w6 g a0 a1 a2 a3 (.slice A l.length c) from blk_grown HI5.out hg6 (Kd.Q_ne (HQC _ HR5.out) HI5.out (by decide)))
        have HK6 := Aside0.mk (HK5.out.grown hg6 (fun k cs hk => Kd.Q_ne (HQC _ HR5.out) hk (by decide)))
        clear hq hb6 hg6 ha6 HI5 HR5 HB5 HK5 HN
        refine hK.out _ _ ?_
        clear hK K
        refine norm_ (a' := ?_) ?_ ?_
        rotate_left
        · show Act.put _ (some 74) _ = _
          simp only [Act.put, List.setIfInBounds_toArray, List.set_cons_zero, List.set_cons_succ, i64_w, i32_w]
          rfl
        refine pure_ (i := 24) (N := some 75) (v := ?_) (a' := ?_) #[true, true, true, true, true, true, true, true, true, true, true, true, true, true, true, true, true, true, true, true, true, true, true, true, true, false, false, false] rfl rfl (by kernel_rfl) (fun _ _ _ h => h) (Or.inl ⟨by rfl, ?_⟩) ?_ ?_
        rotate_left
        · intro w'
          go_simp
          with_reducible rfl
        rotate_left
        · simp only [Act.put, List.setIfInBounds_toArray, List.set_cons_zero, List.set_cons_succ, i64_w, i32_w]
          rfl
        refine pure_ (i := 25) (N := some 76) (v := ?_) (a' := ?_) #[true, true, true, true, true, true, true, true, true, true, true, true, true, true, true, true, true, true, true, true, true, true, true, true, true, true, false, false] rfl rfl (by kernel_rfl) (fun _ _ _ h => h) (Or.inl ⟨by rfl, ?_⟩) ?_ ?_
        rotate_left
        · intro w'
          go_simp
          with_reducible rfl
        rotate_left
        · simp only [Act.put, List.setIfInBounds_toArray, List.set_cons_zero, List.set_cons_succ, i64_w, i32_w]
          rfl
        refine pure_ (i := 26) (N := some 77) (v := ?_) (a' := ?_) #[true, true, true, true, true, true, true, true, true, true, true, true, true, true, true, true, true, true, true, true, true, true, true, true, true, true, true, false] rfl rfl (by kernel_rfl) (fun _ _ _ h => h) (Or.inl ⟨by rfl, ?_⟩) ?_ ?_
        rotate_left
        · intro w'
          go_simp
          with_reducible rfl
        rotate_left
        · simp only [Act.put, List.setIfInBounds_toArray, List.set_cons_zero, List.set_cons_succ, i64_w, i32_w]
          rfl
        refine last_ (i := 27) (N := none) #[true, true, true, true, true, true, true, true, true, true, true, true, true, true, true, true, true, true, true, true, true, true, true, true, true, true, true, true] rfl rfl (by kernel_rfl) (by decide) (fun K hK => ?_)
        obtain ⟨hc0, hc1, hc2, hc3, hc4, hf0, hf1, hf2, hf3, hf4⟩ := HI6.out.cells
        refine skip_ (w1 := ?_) (by rfl) rfl ?_ ?_
        rotate_left
        · go_simp
          rfl
        refine hK.out _ _ ?_
        clear hK K
        refine done_ (by kernel_rfl) ?_
        have HI7 := Aside0.mk (show StT (w6.setCell ⟨g, 4, none⟩ (.slice A1 nn c1)) g a0 a1 a2 a3 (.slice A1 nn c1) from blk_put HI6.out 4 _ rfl)
        have HQ7 := Aside0.mk (Kd.Q_set HQ6.out HI6.out (by decide) 4 (.slice A1 nn c1))
        have HB7 := Aside0.mk (below_set (j := 4) (v := .slice A1 nn c1) HB6.out HG.out)
        have HK7 := Aside0.mk (HK6.out.set HI6.out (by decide) 4 (.slice A1 nn c1))
        generalize w6.setCell ⟨g, 4, none⟩ (.slice A1 nn c1) = w7 at HI7 HQ7 HB7 HK7 ⊢
        clear HI6 HQ6 HB6 HK6 hc0 hc1 hc2 hc3 hc4 hf0 hf1 hf2 hf3 hf4
        obtain ⟨hc0, hc1, hc2, hc3, hc4, hf0, hf1, hf2, hf3, hf4⟩ := HI7.out.cells
        by_cases hle : nn ≤ 4096
        · have hnn : decide (4096 < nn) = false := decide_eq_false (Nat.not_lt.2 hle)
          have hnn2 : decide (4096 < (nn : Int)) = false := decide_eq_false (by omega)
          have HLE := Aside0.mk hle
          clear hle
          go_wp2
          go_ret
          refine IfLe.yes (by rw [← HNN.out]; exact HLE.out) ?_
          refine ⟨_, rfl, blk_put HI7.out 3 _ rfl, ?_, below_set HB7.out HG.out, HK7.out.set HI7.out (by decide) 3 _⟩
          exact Kd.Q_set HQ7.out HI7.out (by decide) 3 _
        · have hnn : decide (4096 < nn) = true := decide_eq_true (Nat.not_le.1 hle)
          have hnn2 : decide (4096 < (nn : Int)) = true := decide_eq_true (by omega)
          have HLE := Aside0.mk hle
          clear hle
          go_wp2
          go_ret
          exact IfLe.no (by rw [← HNN.out]; exact HLE.out) ⟨rfl, HB7.out, HK7.out⟩
      · skip
        refine built_ #[.int .i64 a2, .int .i64 (wrap64 (t + n))] 71 1 (by rfl) rfl ?_ ?_
        · first | (go_simp; done) | (go_simp; rfl)
        intro b w5 hN hb
        have HN := Aside0.mk hN; clear hN
        have HS := hHeld; clear hHeld; obtain ⟨-, -, -, -, -, HI5, HR5, HB5, HK5⟩ := HS
        have HI6 := Aside0.mk (HI5.out.below hb); have HR6 := Aside0.mk (Kd.R_below HR5.out hb); have HB6 := Aside0.mk (below_then HB5.out HB5.out.size hb); have HK6 := Aside0.mk (HK5.out.below hb)
        clear HI5 HR5 HB5 HK5 hb
        refine hK.out _ _ ⟨HI6.out.cells.1, HI6.out.cells.2.1, HI6.out.cells.2.2.1, HI6.out.cells.2.2.2.1, HI6.out.cells.2.2.2.2.1, HI6, HR6, HB6, HK6⟩ (fun hHeld => ?_)
        clear hK K
        refine norm_ (a' := ?_) ?_ ?_
        rotate_left
        · show Act.put _ (some 73) _ = _
          simp only [Act.put, List.setIfInBounds_toArray, List.set_cons_zero, List.set_cons_succ, i64_w, i32_w]
          rfl
        refine one_ (i := 13) (N := some 64) #[true, true, true, true, true, true, true, true, true, true, true, true, true, true, false, true, true, true, true, true, true, true, true, false, false, false, false, false] rfl rfl (by kernel_rfl) (by decide) (fun K hK => ?_)
        obtain ⟨A', c', he, hlc, hC⟩ := Kd.R_reads hHeld.2.2.2.2.2.2.1.out
        obtain ⟨rfl, -, rfl⟩ : A = A' ∧ l.length = l.length ∧ c = c' := (by injection he with h1 h2 h3; exact ⟨h1, rfl, h3⟩)
        refine goes_ Try.func29 (by kernel_rfl) rfl #[.agg #[.int .i64 a0, .int .i64 a1, .int .i64 a2, .int .i64 a3, .slice A l.length c], .int .i64 cf] (by rfl) rfl rfl (by simp only [List.map_toArray, List.map_cons, List.map_nil]; rfl) ?_
        with_reducible refine (throttle_state_open.calls a0 a1 a2 a3 _ _ l cf o _ hC hlc HO.out).mono ?_
        clear he hC
        rintro e w4 ⟨rfl, hb⟩
        refine ⟨_, rfl, ?_⟩
        have HS := hHeld; clear hHeld; obtain ⟨-, -, -, -, -, HI5, HR5, HB5, HK5⟩ := HS
        have HI6 := Aside0.mk (HI5.out.below hb); have HR6 := Aside0.mk (Kd.R_below HR5.out hb); have HB6 := Aside0.mk (below_then HB5.out HB5.out.size hb); have HK6 := Aside0.mk (HK5.out.below hb)
        have HN6 := Aside0.mk (blk_below HN.out hb); clear HN; have HN := HN6; clear HN6
        clear HI5 HR5 HB5 HK5 hb
        refine hK.out _ _ ⟨HI6.out.cells.1, HI6.out.cells.2.1, HI6.out.cells.2.2.1, HI6.out.cells.2.2.2.1, HI6.out.cells.2.2.2.2.1, HI6, HR6, HB6, HK6⟩ (fun hHeld => ?_)
        clear hK K
        refine norm_ (a' := ?_) ?_ ?_
        rotate_left
        · show Act.put _ (some 64) _ = _
          simp only [Act.put, List.setIfInBounds_toArray, List.set_cons_zero, List.set_cons_succ, i64_w, i32_w]
          rfl
        refine pure_ (i := 14) (N := some 65) (v := ?_) (a' := ?_) #[true, true, true, true, true, true, true, true, true, true, true, true, true, true, true, true, true, true, true, true, true, true, true, false, false, false, false, false] rfl rfl (by kernel_rfl) (fun _ _ _ h => h) (Or.inl ⟨by rfl, ?_⟩) ?_ ?_
        rotate_left
        · intro w'
          go_simp
          with_reducible rfl
        rotate_left
        · simp only [Act.put, List.setIfInBounds_toArray, List.set_cons_zero, List.set_cons_succ, i64_w, i32_w]
          rfl
        refine last_ (i := 23) (N := some 74) #[true, true, true, true, true, true, true, true, true, true, true, true, true, true, true, true, true, true, true, true, true, true, true, true, false, false, false, false] rfl rfl (by kernel_rfl) (by decide) (fun K hK => ?_)
        have HS := hHeld; clear hHeld; obtain ⟨-, -, -, -, -, HI5, HR5, HB5, HK5⟩ := HS
        refine Q_append_at_step k71 (w0 := w0) w0.heap.size (by rfl) (.tmp 65) (.tmp 73) 22 71 (.agg #[(.int .i64 0), (.int .i64 0)]) 16 rfl Try.underlying22 info71 rfl (by decide) (by decide) vc (l.drop o.toNat) (⟨a2, wrap64 (t + n)⟩ : S71) [.int .i64 a2, .int .i64 (wrap64 (t + n))] b (fun _ => True) (fun _ => False) rfl rfl HN.out (k71_mkM _ _ _ (⟨a2, wrap64 (t + n)⟩ : S71)) (fun _ hk => hk.elim) (fun _ _ => trivial) (HQC _ HR5.out) HB5.out HB5.out.size HSZ.out ?_
        intro v1 w6 hq hb6 hg6 ha6
        obtain ⟨A1, nn, c1, rfl, hn1⟩ : ∃ A1 n1 c1, v1 = .slice A1 n1 c1 ∧ n1 = (l.drop o.toNat ++ [(⟨a2, wrap64 (t + n)⟩ : S71)]).length := (by obtain ⟨A1, c1, h, _⟩ := Kd.Q_slice hq; exact ⟨A1, _, c1, h, rfl⟩)
        have HNN := Aside0.mk hn1; clear hn1
        have HQ6 := Aside0.mk hq; have HB6 := Aside0.mk hb6
        have HI6 := Aside0.mk (show StT w6 g a0 a1 a2 a3 (.slice A l.length c) from blk_grown HI5.out hg6 (Kd.Q_ne (HQC _ HR5.out) HI5.out (by decide)))
        have HK6 := Aside0.mk (HK5.out.grown hg6 (fun k cs hk => Kd.Q_ne (HQC _ HR5.out) hk (by decide)))
        clear hq hb6 hg6 ha6 HI5 HR5 HB5 HK5 HN
        refine hK.out _ _ ?_
        clear hK K
        refine norm_ (a' := ?_) ?_ ?_
        rotate_left
        · show Act.put _ (some 74) _ = _
          simp only [Act.put, List.setIfInBounds_toArray, List.set_cons_zero, List.set_cons_succ, i64_w, i32_w]
          rfl
        refine pure_ (i := 24) (N := some 75) (v := ?_) (a' := ?_) #[true, true, true, true, true, true, true, true, true, true, true, true, true, true, true, true, true, true, true, true, true, true, true, true, true, false, false, false] rfl rfl (by kernel_rfl) (fun _ _ _ h => h) (Or.inl ⟨by rfl, ?_⟩) ?_ ?_
        rotate_left
        · intro w'
          go_simp
          with_reducible rfl
        rotate_left
        · simp only [Act.put, List.setIfInBounds_toArray, List.set_cons_zero, List.set_cons_succ, i64_w, i32_w]
          rfl
        refine pure_ (i := 25) (N := some 76) (v := ?_) (a' := ?_) #[true, true, true, true, true, true, true, true, true, true, true, true, true, true, true, true, true, true, true, true, true, true, true, true, true, true, false, false] rfl rfl (by kernel_rfl) (fun _ _ _ h => h) (Or.inl ⟨by rfl, ?_⟩) ?_ ?_
        rotate_left
        · intro w'
          go_simp
          with_reducible rfl
        rotate_left
        · simp only [Act.put, List.setIfInBounds_toArray, List.set_cons_zero, List.set_cons_succ, i64_w, i32_w]
          rfl
        refine pure_ (i := 26) (N := some 77) (v := ?_) (a' := ?_) #[true, true, true, true, true, true, true, true, true, true, true, true, true, true, true, true, true, true, true, true, true, true, true, true, true, true, true, false] rfl rfl (by kernel_rfl) (fun _ _ _ h => h) (Or.inl ⟨by rfl, ?_⟩) ?_ ?_
        rotate_left
        · intro w'
          go_simp
          with_reducible rfl
        rotate_left
        · simp only [Act.put, List.setIfInBounds_toArray, List.set_cons_zero, List.set_cons_succ, i64_w, i32_w]
          rfl
        refine last_ (i := 27) (N := none) #[true, true, true, true, true, true, true, true, true, true, true, true, true, true, true, true, true, true, true, true, true, true, true, true, true, true, true, true] rfl rfl (by kernel_rfl) (by decide) (fun K hK => ?_)
        obtain ⟨hc0, hc1, hc2, hc3, hc4, hf0, hf1, hf2, hf3, hf4⟩ := HI6.out.cells
        refine skip_ (w1 := ?_) (by rfl) rfl ?_ ?_
        rotate_left
        · go_simp
          rfl
        refine hK.out _ _ ?_
        clear hK K
        refine done_ (by kernel_rfl) ?_
        have HI7 := Aside0.mk (show StT (w6.setCell ⟨g, 4, none⟩ (.slice A1 nn c1)) g a0 a1 a2 a3 (.slice A1 nn c1) from blk_put HI6.out 4 _ rfl)
        have HQ7 := Aside0.mk (Kd.Q_set HQ6.out HI6.out (by decide) 4 (.slice A1 nn c1))
        have HB7 := Aside0.mk (below_set (j := 4) (v := .slice A1 nn c1) HB6.out HG.out)
        have HK7 := Aside0.mk (HK6.out.set HI6.out (by decide) 4 (.slice A1 nn c1))
        generalize w6.setCell ⟨g, 4, none⟩ (.slice A1 nn c1) = w7 at HI7 HQ7 HB7 HK7 ⊢
        clear HI6 HQ6 HB6 HK6 hc0 hc1 hc2 hc3 hc4 hf0 hf1 hf2 hf3 hf4
        obtain ⟨hc0, hc1, hc2, hc3, hc4, hf0, hf1, hf2, hf3, hf4⟩ := HI7.out.cells
        by_cases hle : nn ≤ 4096
        · have hnn : decide (4096 < nn) = false := decide_eq_false (Nat.not_lt.2 hle)
          have hnn2 : decide (4096 < (nn : Int)) = false := decide_eq_false (by omega)
          have HLE := Aside0.mk hle
          clear hle
          go_wp2
          go_ret
          refine IfLe.yes (by rw [← HNN.out]; exact HLE.out) ?_
          refine ⟨_, rfl, blk_put HI7.out 3 _ rfl, ?_, below_set HB7.out HG.out, HK7.out.set HI7.out (by decide) 3 _⟩
          exact Kd.Q_set HQ7.out HI7.out (by decide) 3 _
        · have hnn : decide (4096 < nn) = true := decide_eq_true (Nat.not_le.1 hle)
          have hnn2 : decide (4096 < (nn : Int)) = true := decide_eq_true (by omega)
          have HLE := Aside0.mk hle
          clear hle
          go_wp2
          go_ret
          exact IfLe.no (by rw [← HNN.out]; exact HLE.out) ⟨rfl, HB7.out, HK7.out⟩
    · skip
      refine built_ #[.int .i64 a2, .int .i64 (wrap64 (t + n))] 71 1 (by rfl) rfl ?_ ?_
      · first | (go_simp; done) | (go_simp; rfl)
      intro b w5 hN hb
      have HN := Aside0.mk hN; clear hN
      have HS := hHeld; clear hHeld; obtain ⟨-, -, -, -, -, HI5, HR5, HB5, HK5⟩ := HS
      have HI6 := Aside0.mk (HI5.out.below hb); have HR6 := Aside0.mk (Kd.R_below HR5.out hb); have HB6 := Aside0.mk (below_then HB5.out HB5.out.size hb); have HK6 := Aside0.mk (HK5.out.below hb)
      clear HI5 HR5 HB5 HK5 hb
      refine hK.out _ _ ⟨HI6.out.cells.1, HI6.out.cells.2.1, HI6.out.cells.2.2.1, HI6.out.cells.2.2.2.1, HI6.out.cells.2.2.2.2.1, HI6, HR6, HB6, HK6⟩ (fun hHeld => ?_)
      clear hK K
      refine norm_ (a' := ?_) ?_ ?_
      rotate_left
      · show Act.put _ (some 73) _ = _
        simp only [Act.put, List.setIfInBounds_toArray, List.set_cons_zero, List.set_cons_succ, i64_w, i32_w]
        rfl
      refine one_ (i := 12) (N := some 63) #[true, true, true, true, true, true, true, true, true, true, true, true, true, false, false, true, true, true, true, true, true, true, true, false, false, false, false, false] rfl rfl (by kernel_rfl) (by decide) (fun K hK => ?_)
      obtain ⟨A', c', he, hlc, hC⟩ := Kd.R_reads hHeld.2.2.2.2.2.2.1.out
      obtain ⟨rfl, -, rfl⟩ : A = A' ∧ l.length = l.length ∧ c = c' := (by injection he with h1 h2 h3; exact ⟨h1, rfl, h3⟩)
      refine goes_ Try.func30 (by kernel_rfl) rfl #[.agg #[.int .i64 a0, .int .i64 a1, .int .i64 a2, .int .i64 a3, .slice A l.length c]] (by rfl) rfl rfl (by simp only [List.map_toArray, List.map_cons, List.map_nil]; rfl) ?_
      with_reducible refine (throttle_state_confirmed.calls a0 a1 a2 a3 _ _ l cf _ hC hlc HCF.out).mono ?_
      clear he hC
      rintro e w3 ⟨rfl, hb⟩
      refine ⟨_, rfl, ?_⟩
      have HS := hHeld; clear hHeld; obtain ⟨-, -, -, -, -, HI5, HR5, HB5, HK5⟩ := HS
      have HI6 := Aside0.mk (HI5.out.below hb); have HR6 := Aside0.mk (Kd.R_below HR5.out hb); have HB6 := Aside0.mk (below_then HB5.out HB5.out.size hb); have HK6 := Aside0.mk (HK5.out.below hb)
      have HN6 := Aside0.mk (blk_below HN.out hb); clear HN; have HN := HN6; clear HN6
      clear HI5 HR5 HB5 HK5 hb
      refine hK.out _ _ ⟨HI6.out.cells.1, HI6.out.cells.2.1, HI6.out.cells.2.2.1, HI6.out.cells.2.2.2.1, HI6.out.cells.2.2.2.2.1, HI6, HR6, HB6, HK6⟩ (fun hHeld => ?_)
      clear hK K
      refine norm_ (a' := ?_) ?_ ?_
      rotate_left
      · show Act.put _ (some 63) _ = _
        simp only [Act.put, List.setIfInBounds_toArray, List.set_cons_zero, List.set_cons_succ, i64_w, i32_w]
        rfl
      refine one_ (i := 13) (N := some 64) #[true, true, true, true, true, true, true, true, true, true, true, true, true, true, false, true, true, true, true, true, true, true, true, false, false, false, false, false] rfl rfl (by kernel_rfl) (by decide) (fun K hK => ?_)
      obtain ⟨A', c', he, hlc, hC⟩ := Kd.R_reads hHeld.2.2.2.2.2.2.1.out
      obtain ⟨rfl, -, rfl⟩ : A = A' ∧ l.length = l.length ∧ c = c' := (by injection he with h1 h2 h3; exact ⟨h1, rfl, h3⟩)
      refine goes_ Try.func29 (by kernel_rfl) rfl #[.agg #[.int .i64 a0, .int .i64 a1, .int .i64 a2, .int .i64 a3, .slice A l.length c], .int .i64 cf] (by rfl) rfl rfl (by simp only [List.map_toArray, List.map_cons, List.map_nil]; rfl) ?_
      with_reducible refine (throttle_state_open.calls a0 a1 a2 a3 _ _ l cf o _ hC hlc HO.out).mono ?_
      clear he hC
      rintro e w4 ⟨rfl, hb⟩
      refine ⟨_, rfl, ?_⟩
      have HS := hHeld; clear hHeld; obtain ⟨-, -, -, -, -, HI5, HR5, HB5, HK5⟩ := HS
      have HI6 := Aside0.mk (HI5.out.below hb); have HR6 := Aside0.mk (Kd.R_below HR5.out hb); have HB6 := Aside0.mk (below_then HB5.out HB5.out.size hb); have HK6 := Aside0.mk (HK5.out.below hb)
      have HN6 := Aside0.mk (blk_below HN.out hb); clear HN; have HN := HN6; clear HN6
      clear HI5 HR5 HB5 HK5 hb
      refine hK.out _ _ ⟨HI6.out.cells.1, HI6.out.cells.2.1, HI6.out.cells.2.2.1, HI6.out.cells.2.2.2.1, HI6.out.cells.2.2.2.2.1, HI6, HR6, HB6, HK6⟩ (fun hHeld => ?_)
      clear hK K
      refine norm_ (a' := ?_) ?_ ?_
      rotate_left
      · show Act.put _ (some 64) _ = _
        simp only [Act.put, List.setIfInBounds_toArray, List.set_cons_zero, List.set_cons_succ, i64_w, i32_w]
        rfl
      refine pure_ (i := 14) (N := some 65) (v := ?_) (a' := ?_) #[true, true, true, true, true, true, true, true, true, true, true, true, true, true, true, true, true, true, true, true, true, true, true, false, false, false, false, false] rfl rfl (by kernel_rfl) (fun _ _ _ h => h) (Or.inl ⟨by rfl, ?_⟩) ?_ ?_
      rotate_left
      · intro w'
        go_simp
        with_reducible rfl
      rotate_left
      · simp only [Act.put, List.setIfInBounds_toArray, List.set_cons_zero, List.set_cons_succ, i64_w, i32_w]
        rfl
      refine last_ (i := 23) (N := some 74) #[true, true, true, true, true, true, true, true, true, true, true, true, true, true, true, true, true, true, true, true, true, true, true, true, false, false, false, false] rfl rfl (by kernel_rfl) (by decide) (fun K hK => ?_)
      have HS := hHeld; clear hHeld; obtain ⟨-, -, -, -, -, HI5, HR5, HB5, HK5⟩ := HS
      refine Q_append_at_step k71 (w0 := w0) w0.heap.size (by rfl) (.tmp 65) (.tmp 73) 22 71 (.agg #[(.int .i64 0), (.int .i64 0)]) 16 rfl Try.underlying22 info71 rfl (by decide) (by decide) vc (l.drop o.toNat) (⟨a2, wrap64 (t + n)⟩ : S71) [.int .i64 a2, .int .i64 (wrap64 (t + n))] b (fun _ => True) (fun _ => False) rfl rfl HN.out (k71_mkM _ _ _ (⟨a2, wrap64 (t + n)⟩ : S71)) (fun _ hk => hk.elim) (fun _ _ => trivial) (HQC _ HR5.out) HB5.out HB5.out.size HSZ.out ?_
      intro v1 w6 hq hb6 hg6 ha6
      obtain ⟨A1, nn, c1, rfl, hn1⟩ : ∃ A1 n1 c1, v1 = .slice A1 n1 c1 ∧ n1 = (l.drop o.toNat ++ [(⟨a2, wrap64 (t + n)⟩ : S71)]).length := (by obtain ⟨A1, c1, h, _⟩ := Kd.Q_slice hq; exact ⟨A1, _, c1, h, rfl⟩)
      have HNN := Aside0.mk hn1; clear hn1
      have HQ6 := Aside0.mk hq; have HB6 := Aside0.mk hb6
      have HI6 := Aside0.mk (show StT w6 g a0 a1 a2 a3 (.slice A l.length c) from blk_grown HI5.out hg6 (Kd.Q_ne (HQC _ HR5.out) HI5.out (by decide)))
      have HK6 := Aside0.mk (HK5.out.grown hg6 (fun k cs hk => Kd.Q_ne (HQC _ HR5.out) hk (by decide)))
      clear hq hb6 hg6 ha6 HI5 HR5 HB5 HK5 HN
      refine hK.out _ _ ?_
      clear hK K
      refine norm_ (a' := ?_) ?_ ?_
      rotate_left
      · show Act.put _ (some 74) _ = _
        simp only [Act.put, List.setIfInBounds_toArray, List.set_cons_zero, List.set_cons_succ, i64_w, i32_w]
        rfl
      refine pure_ (i := 24) (N := some 75) (v := ?_) (a' := ?_) #[true, true, true, true, true, true, true, true, true, true, true, true, true, true, true, true, true, true, true, true, true, true, true, true, true, false, false, false] rfl rfl (by kernel_rfl) (fun _ _ _ h => h) (Or.inl ⟨by rfl, ?_⟩) ?_ ?_
      rotate_left
      · intro w'
        go_simp
        with_reducible rfl
      rotate_left
      · simp only [Act.put, List.setIfInBounds_toArray, List.set_cons_zero, List.set_cons_succ, i64_w, i32_w]
        rfl
      refine pure_ (i := 25) (N := some 76) (v := ?_) (a' := ?_) #[true, true, true, true, true, true, true, true, true, true, true, true, true, true, true, true, true, true, true, true, true, true, true, true, true, true, false, false] rfl rfl (by kernel_rfl) (fun _ _ _ h => h) (Or.inl ⟨by rfl, ?_⟩) ?_ ?_
      rotate_left
      · intro w'
        go_simp
        with_reducible rfl
      rotate_left
      · simp only [Act.put, List.setIfInBounds_toArray, List.set_cons_zero, List.set_cons_succ, i64_w, i32_w]
        rfl
      refine pure_ (i := 26) (N := some 77) (v := ?_) (a' := ?_) #[true, true, true, true, true, true, true, true, true, true, true, true, true, true, true, true, true, true, true, true, true, true, true, true, true, true, true, false] rfl rfl (by kernel_rfl) (fun _ _ _ h => h) (Or.inl ⟨by rfl, ?_⟩) ?_ ?_
      rotate_left
      · intro w'
        go_simp
        with_reducible rfl
      rotate_left
      · simp only [Act.put, List.setIfInBounds_toArray, List.set_cons_zero, List.set_cons_succ, i64_w, i32_w]
        rfl
      refine last_ (i := 27) (N := none) #[true, true, true, true, true, true, true, true, true, true, true, true, true, true, true, true, true, true, true, true, true, true, true, true, true, true, true, true] rfl rfl (by kernel_rfl) (by decide) (fun K hK => ?_)
      obtain ⟨hc0, hc1, hc2, hc3, hc4, hf0, hf1, hf2, hf3, hf4⟩ := HI6.out.cells
      refine skip_ (w1 := ?_) (by rfl) rfl ?_ ?_
      rotate_left
      · go_simp
        rfl
      refine hK.out _ _ ?_
      clear hK K
      refine done_ (by kernel_rfl) ?_
      have HI7 := Aside0.mk (show StT (w6.setCell ⟨g, 4, none⟩ (.slice A1 nn c1)) g a0 a1 a2 a3 (.slice A1 nn c1) from blk_put HI6.out 4 _ rfl)
      have HQ7 := Aside0.mk (Kd.Q_set HQ6.out HI6.out (by decide) 4 (.slice A1 nn c1))
      have HB7 := Aside0.mk (below_set (j := 4) (v := .slice A1 nn c1) HB6.out HG.out)
      have HK7 := Aside0.mk (HK6.out.set HI6.out (by decide) 4 (.slice A1 nn c1))
      generalize w6.setCell ⟨g, 4, none⟩ (.slice A1 nn c1) = w7 at HI7 HQ7 HB7 HK7 ⊢
      clear HI6 HQ6 HB6 HK6 hc0 hc1 hc2 hc3 hc4 hf0 hf1 hf2 hf3 hf4
      obtain ⟨hc0, hc1, hc2, hc3, hc4, hf0, hf1, hf2, hf3, hf4⟩ := HI7.out.cells
      by_cases hle : nn ≤ 4096
      · have hnn : decide (4096 < nn) = false := decide_eq_false (Nat.not_lt.2 hle)
        have hnn2 : decide (4096 < (nn : Int)) = false := decide_eq_false (by omega)
        have HLE := Aside0.mk hle
        clear hle
        go_wp2
        go_ret
        refine IfLe.yes (by rw [← HNN.out]; exact HLE.out) ?_
        refine ⟨_, rfl, blk_put HI7.out 3 _ rfl, ?_, below_set HB7.out HG.out, HK7.out.set HI7.out (by decide) 3 _⟩
        exact Kd.Q_set HQ7.out HI7.out (by decide) 3 _
      · have hnn : decide (4096 < nn) = true := decide_eq_true (Nat.not_le.1 hle)
        have hnn2 : decide (4096 < (nn : Int)) = true := decide_eq_true (by omega)
        have HLE := Aside0.mk hle
        clear hle
        go_wp2
        go_ret
        exact IfLe.no (by rw [← HNN.out]; exact HLE.out) ⟨rfl, HB7.out, HK7.out⟩


end Go.Proofs.Ytppniempndnghaa.PA
