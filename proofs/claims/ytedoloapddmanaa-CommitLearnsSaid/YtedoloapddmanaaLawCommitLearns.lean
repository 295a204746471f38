/- CommitLearns: Learn of commit returns the source and the messages that the reference returns, for all sources and messages (no condition beyond the row's own domain). Here: the row, out of its pure statement and the walk. -/
import Derived.Test.YtedoloapddmanaaRows
import Derived.Test.YtedoloapddmanaaSCommitLearns
import Derived.Test.YtedoloapddmanaaPureCommitLearns
import Derived.WalkKit
import Derived.ProofKit
import Derived.OpenShut
import Derived.ShutString
import Derived.ChangeOld
import Derived.Below
import Derived.SizedLaws
namespace Go.Proofs.Ytedoloapddmanaa.commitLearns
open Go.ChangeShapes Go.WideShapes Go.ChangeAt Go.RowKit Go.Proofs.Ytedoloapddmanaa.Open Go.Proofs.YtedoloapddmanaaW.PrintWords Go.Proofs.Ytedoloapddmanaa.PB
open Go.ChangeMaps (open_string shut_string)
set_option linter.unusedVariables false
theorem own : ownKnob Try.prog.godebug = none := by kernel_rfl
theorem laidOut : laidOutB Try.prog = true := by kernel_rfl
set_option maxHeartbeats 4000000 in
set_option maxRecDepth 100000 in
theorem lifted (os : Os) (started : os.Started) (H : Type) (enc : TypeId × Value → H) :
    ReturnsInHanded {} Try.checked os 5 .any (Rows.commitLearnsSpec.pre6 enc Try.prog Try.f5 Rows.commitLearnsRow.domain false) (Rows.commitLearnsSpec.post enc Try.prog Try.f5 false true false false) := by
  refine returnsInHanded_of_change_sized (C := Try.checked) own started (by kernel_rfl) Try.func5
    (ChangeSpec.witness6 (enc := enc) (C := Try.checked) false ⟨#[], #[.agg #[.int .i64 0, .int .i64 0, .slice none 0 0, .int .i64 0, .int .i64 0], .agg #[.int .i64 0, .int .i64 0, .int .i64 0, .int .i64 0, .int .i64 0, .int .i64 0, .slice none 0 0, .slice none 0 0]], []⟩ 8 (by kernel_rfl) (by kernel_rfl) (by kernel_rfl) (by kernel_rfl)) ?_
  intro W base args ds gs before hval0 hW hcnd hsz0 _
  have hval : ∀ (j : Nat) t v, Try.f5.params[j]? = some t → args[j]? = some v → Value.okWide Try.prog W .any base t v := hval0
  have hW' := hW
  obtain ⟨p, q, hA0, hV, rfl, hfz, hnd⟩ := hW
  have hA : DataW.TrodAll enc Try.prog W 0 (fun _ => true) true Try.f5.params.toList args.toList ds p := hA0
  rw [Try.params5] at hA hval
  obtain ⟨v0, vs0, d0, ds0, p0, q0, hargs, rfl, rfl, h0, r0⟩ := trodAll_cons hA
  obtain ⟨v1, vs1, d1, ds1, p1, q1, rfl, rfl, rfl, h1, r1⟩ := trodAll_cons r0
  obtain ⟨rfl, rfl, rfl⟩ := trodAll_nil r1
  obtain rfl : args = #[v0, v1] := by cases args; simp_all
  obtain ⟨rfl, rfl⟩ := trodVars_none hV
  have k0_ := h0
  have lt0 : ∀ x ∈ p0, x.block < W.heap.size := by obtain ⟨m, hm⟩ := k0_; exact DataW.trod_lt m _ _ _ hm
  obtain ⟨fu0, hf0⟩ := h0
  obtain ⟨cs0, rfl, hsz0⟩ := okWide_struct Try.underlying24 (hval 0 24 v0 rfl rfl)
  replace hsz0 : cs0.size = 5 := hsz0.trans (by kernel_rfl)
  obtain ⟨e0_0, e0_1, e0_2, e0_3, e0_4, rfl⟩ := arr_5 cs0 hsz0
  have hq0 : DataW.trod enc Try.prog W 0 (fun _ => true) true fu0 24 [e0_0, e0_1, e0_2, e0_3, e0_4] = some (d0, p0) := hf0
  obtain ⟨xs0_1, n0_1, -, -, -, hlen0_1, hg0_1⟩ := DataW.trod_struct Try.underlying24 hq0
  obtain ⟨y0_1_0, y0_1_1, y0_1_2, y0_1_3, y0_1_4, rfl⟩ := list_5 xs0_1 hlen0_1
  have hh0_1_0 := hg0_1 0 _ rfl
  replace hh0_1_0 : DataW.trod enc Try.prog W 0 (fun _ => true) true n0_1 3 [e0_0] = some y0_1_0 := by rw [show Try.prog.cellsOf _ = 1 from by kernel_rfl] at hh0_1_0; exact hh0_1_0
  obtain ⟨a0_0, he0_0, -, w0_0⟩ := DataW.trod_int Try.underlying3 hh0_1_0
  obtain rfl := List.singleton_inj.1 he0_0
  have hh0_1_1 := hg0_1 1 _ rfl
  replace hh0_1_1 : DataW.trod enc Try.prog W 0 (fun _ => true) true n0_1 3 [e0_1] = some y0_1_1 := by rw [show Try.prog.cellsOf _ = 1 from by kernel_rfl] at hh0_1_1; exact hh0_1_1
  obtain ⟨a0_1, he0_1, -, w0_1⟩ := DataW.trod_int Try.underlying3 hh0_1_1
  obtain rfl := List.singleton_inj.1 he0_1
  have hh0_1_2 := hg0_1 2 _ rfl
  replace hh0_1_2 : DataW.trod enc Try.prog W 0 (fun _ => true) true n0_1 22 [e0_2] = some y0_1_2 := by rw [show Try.prog.cellsOf _ = 1 from by kernel_rfl] at hh0_1_2; exact hh0_1_2
  obtain ⟨l0_2, hk0_2, gg0_2, hm0_2⟩ := (opens_slice Try.underlying22 (opens_int Try.underlying3) (by kernel_rfl)) _ _ _ _ _ _ _ _ _ hh0_1_2
  obtain ⟨A0_2, c0_2, hcs0_2, hc0_2, hr0_2⟩ := slice_leaf hk0_2
  obtain rfl := List.singleton_inj.1 hcs0_2
  have hh0_1_3 := hg0_1 3 _ rfl
  replace hh0_1_3 : DataW.trod enc Try.prog W 0 (fun _ => true) true n0_1 3 [e0_3] = some y0_1_3 := by rw [show Try.prog.cellsOf _ = 1 from by kernel_rfl] at hh0_1_3; exact hh0_1_3
  obtain ⟨a0_3, he0_3, -, w0_3⟩ := DataW.trod_int Try.underlying3 hh0_1_3
  obtain rfl := List.singleton_inj.1 he0_3
  have hh0_1_4 := hg0_1 4 _ rfl
  replace hh0_1_4 : DataW.trod enc Try.prog W 0 (fun _ => true) true n0_1 3 [e0_4] = some y0_1_4 := by rw [show Try.prog.cellsOf _ = 1 from by kernel_rfl] at hh0_1_4; exact hh0_1_4
  obtain ⟨a0_4, he0_4, -, w0_4⟩ := DataW.trod_int Try.underlying3 hh0_1_4
  obtain rfl := List.singleton_inj.1 he0_4
  have k1_ := h1
  have lt1 : ∀ x ∈ p1, x.block < W.heap.size := by obtain ⟨m, hm⟩ := k1_; exact DataW.trod_lt m _ _ _ hm
  obtain ⟨fu1, hf1⟩ := h1
  obtain ⟨cs1, rfl, hsz1⟩ := okWide_struct Try.underlying53 (hval 1 53 v1 rfl rfl)
  replace hsz1 : cs1.size = 8 := hsz1.trans (by kernel_rfl)
  obtain ⟨e1_0, e1_1, e1_2, e1_3, e1_4, e1_5, e1_6, e1_7, rfl⟩ := arr_8 cs1 hsz1
  have hq1 : DataW.trod enc Try.prog W 0 (fun _ => true) true fu1 53 [e1_0, e1_1, e1_2, e1_3, e1_4, e1_5, e1_6, e1_7] = some (d1, p1) := hf1
  obtain ⟨xs1_1, n1_1, -, -, -, hlen1_1, hg1_1⟩ := DataW.trod_struct Try.underlying53 hq1
  obtain ⟨y1_1_0, y1_1_1, y1_1_2, y1_1_3, y1_1_4, y1_1_5, y1_1_6, y1_1_7, rfl⟩ := list_8 xs1_1 hlen1_1
  have hh1_1_0 := hg1_1 0 _ rfl
  replace hh1_1_0 : DataW.trod enc Try.prog W 0 (fun _ => true) true n1_1 3 [e1_0] = some y1_1_0 := by rw [show Try.prog.cellsOf _ = 1 from by kernel_rfl] at hh1_1_0; exact hh1_1_0
  obtain ⟨a1_0, he1_0, -, w1_0⟩ := DataW.trod_int Try.underlying3 hh1_1_0
  obtain rfl := List.singleton_inj.1 he1_0
  have hh1_1_1 := hg1_1 1 _ rfl
  replace hh1_1_1 : DataW.trod enc Try.prog W 0 (fun _ => true) true n1_1 3 [e1_1] = some y1_1_1 := by rw [show Try.prog.cellsOf _ = 1 from by kernel_rfl] at hh1_1_1; exact hh1_1_1
  obtain ⟨a1_1, he1_1, -, w1_1⟩ := DataW.trod_int Try.underlying3 hh1_1_1
  obtain rfl := List.singleton_inj.1 he1_1
  have hh1_1_2 := hg1_1 2 _ rfl
  replace hh1_1_2 : DataW.trod enc Try.prog W 0 (fun _ => true) true n1_1 3 [e1_2] = some y1_1_2 := by rw [show Try.prog.cellsOf _ = 1 from by kernel_rfl] at hh1_1_2; exact hh1_1_2
  obtain ⟨a1_2, he1_2, -, w1_2⟩ := DataW.trod_int Try.underlying3 hh1_1_2
  obtain rfl := List.singleton_inj.1 he1_2
  have hh1_1_3 := hg1_1 3 _ rfl
  replace hh1_1_3 : DataW.trod enc Try.prog W 0 (fun _ => true) true n1_1 3 [e1_3] = some y1_1_3 := by rw [show Try.prog.cellsOf _ = 1 from by kernel_rfl] at hh1_1_3; exact hh1_1_3
  obtain ⟨a1_3, he1_3, -, w1_3⟩ := DataW.trod_int Try.underlying3 hh1_1_3
  obtain rfl := List.singleton_inj.1 he1_3
  have hh1_1_4 := hg1_1 4 _ rfl
  replace hh1_1_4 : DataW.trod enc Try.prog W 0 (fun _ => true) true n1_1 3 [e1_4] = some y1_1_4 := by rw [show Try.prog.cellsOf _ = 1 from by kernel_rfl] at hh1_1_4; exact hh1_1_4
  obtain ⟨a1_4, he1_4, -, w1_4⟩ := DataW.trod_int Try.underlying3 hh1_1_4
  obtain rfl := List.singleton_inj.1 he1_4
  have hh1_1_5 := hg1_1 5 _ rfl
  replace hh1_1_5 : DataW.trod enc Try.prog W 0 (fun _ => true) true n1_1 3 [e1_5] = some y1_1_5 := by rw [show Try.prog.cellsOf _ = 1 from by kernel_rfl] at hh1_1_5; exact hh1_1_5
  obtain ⟨a1_5, he1_5, -, w1_5⟩ := DataW.trod_int Try.underlying3 hh1_1_5
  obtain rfl := List.singleton_inj.1 he1_5
  have hh1_1_6 := hg1_1 6 _ rfl
  replace hh1_1_6 : DataW.trod enc Try.prog W 0 (fun _ => true) true n1_1 22 [e1_6] = some y1_1_6 := by rw [show Try.prog.cellsOf _ = 1 from by kernel_rfl] at hh1_1_6; exact hh1_1_6
  obtain ⟨l1_6, hk1_6, gg1_6, hm1_6⟩ := (opens_slice Try.underlying22 (opens_int Try.underlying3) (by kernel_rfl)) _ _ _ _ _ _ _ _ _ hh1_1_6
  obtain ⟨A1_6, c1_6, hcs1_6, hc1_6, hr1_6⟩ := slice_leaf hk1_6
  obtain rfl := List.singleton_inj.1 hcs1_6
  have hh1_1_7 := hg1_1 7 _ rfl
  replace hh1_1_7 : DataW.trod enc Try.prog W 0 (fun _ => true) true n1_1 51 [e1_7] = some y1_1_7 := by rw [show Try.prog.cellsOf _ = 1 from by kernel_rfl] at hh1_1_7; exact hh1_1_7
  obtain ⟨l1_7, hk1_7, gg1_7, hm1_7⟩ := (opens_slice Try.underlying51 (opens_int Try.underlying5) (by kernel_rfl)) _ _ _ _ _ _ _ _ _ hh1_1_7
  obtain ⟨A1_7, c1_7, hcs1_7, hc1_7, hr1_7⟩ := slice_leaf hk1_7
  obtain rfl := List.singleton_inj.1 hcs1_7
  clear hA0 hval0 hsz0
  obtain ⟨k, hp⟩ := Pure.CommitLearns a0_0 a0_1 l0_2 a0_3 a0_4 a1_0 a1_1 a1_2 a1_3 a1_4 a1_5 l1_6 l1_7 w0_0 w0_1 gg0_2 hm0_2 w0_3 w0_4 w1_0 w1_1 w1_2 w1_3 w1_4 w1_5 gg1_6 hm1_6 gg1_7 hm1_7
  refine (PB.standbylaw32_CommitLearns.calls k a0_0 a0_1 A0_2 c0_2 l0_2 a0_3 a0_4 a1_0 a1_1 a1_2 a1_3 a1_4 a1_5 A1_6 c1_6 l1_6 A1_7 c1_7 l1_7 true W hr0_2 hc0_2 hr1_6 hc1_6 hr1_7 hc1_7 hp).mono ?_
  rintro e W' ⟨rfl, bel⟩
  exact ⟨_, rfl, _, _, _, [], _, [], hW', trodAll_mk1 (shut_bool Try.underlying4 _), (trodAll_cons_mk (Below.trod laidOut (by kernel_rfl) (of_decide_eq_true (by kernel_rfl)) k0_ bel lt0) (trodAll_cons_mk (Below.trod laidOut (by kernel_rfl) (of_decide_eq_true (by kernel_rfl)) k1_ bel lt1) trodAll_mk0)), rfl, bel.frame _, fun h => by cases h⟩
theorem over : Rows.commitLearnsRow.holds Try.pinned (OpenSpec.ofChange Rows.commitLearnsSpec) :=
  OpenClaim.holds_of_wide 5 Try.f5 rfl rfl rfl rfl rfl rfl rfl ⟨rfl, rfl, rfl, rfl, rfl⟩ rfl rfl rfl rfl rfl (by kernel_rfl) Try.func5 (by kernel_rfl)
    (of_decide_eq_true (by kernel_rfl)) (by unfold Func.isWrapper; first | (rw [if_pos (by decide +kernel)]; kernel_rfl) | (rw [if_neg (by decide +kernel)]; exact ⟨rfl, rfl⟩))
    (fun os started H enc _ => lifted os started H enc)
end Go.Proofs.Ytedoloapddmanaa.commitLearns
namespace Go.Proofs.Ytedoloapddmanaa
/-- The row, under a short name, for the claim. -/
theorem commitLearns_holds : Rows.CommitLearnsSaid := commitLearns.over
#print axioms commitLearns_holds
end Go.Proofs.Ytedoloapddmanaa
