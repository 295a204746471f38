/- ThrottleKeeps: if in every tick at least Rate sectors are confirmed, or all that remain, the age is never greater than Objective and Backlog never greater than Rate Objective (at most 60 steps; any objective and rate drawn out of a byte each) (no condition beyond the row's own domain). Here: the row, out of its pure statement and the walk. -/
import Derived.Test.YtppniempndnghaaRows
import Derived.Test.YtppniempndnghaaSThrottleKeeps
import Derived.Test.YtppniempndnghaaPureThrottleKeeps
import Derived.WalkKit
import Derived.ProofKit
import Derived.OpenShut
import Derived.ShutString
import Derived.ChangeOld
import Derived.Below
import Derived.SizedLaws
namespace Go.Proofs.Ytppniempndnghaa.throttleKeeps
open Go.ChangeShapes Go.WideShapes Go.ChangeAt Go.RowKit Go.Proofs.Ytppniempndnghaa.Open Go.Proofs.YtppniempndnghaaW.PrintWords Go.Proofs.Ytppniempndnghaa.PA
open Go.ChangeMaps (open_string shut_string)
set_option linter.unusedVariables false
theorem own : ownKnob Try.prog.godebug = none := by kernel_rfl
theorem laidOut : laidOutB Try.prog = true := by kernel_rfl
set_option maxHeartbeats 4000000 in
set_option maxRecDepth 100000 in
theorem lifted (os : Os) (started : os.Started) (H : Type) (enc : TypeId × Value → H) :
    ReturnsInHanded {} Try.checked os 5 .any (Rows.throttleKeepsSpec.pre6 enc Try.prog Try.f5 Rows.throttleKeepsRow.domain false) (Rows.throttleKeepsSpec.post enc Try.prog Try.f5 false true false false) := by
  refine returnsInHanded_of_change_sized (C := Try.checked) own started (by kernel_rfl) Try.func5
    (ChangeSpec.witness6 (enc := enc) (C := Try.checked) false ⟨#[], #[.int .u8 0, .int .u8 0, .slice none 0 0], []⟩ 8 (by kernel_rfl) (by kernel_rfl) (by kernel_rfl) (by kernel_rfl)) ?_
  intro W base args ds gs before hval0 hW hcnd hsz0 _
  have hval : ∀ (j : Nat) t v, Try.f5.params[j]? = some t → args[j]? = some v → Value.okWide Try.prog W .any base t v := hval0
  have hW' := hW
  obtain ⟨p, q, hA0, hV, rfl, hfz, hnd⟩ := hW
  have hA : DataW.TrodAll enc Try.prog W 0 (fun _ => true) true Try.f5.params.toList args.toList ds p := hA0
  rw [Try.params5] at hA hval
  obtain ⟨v0, vs0, d0, ds0, p0, q0, hargs, rfl, rfl, h0, r0⟩ := trodAll_cons hA
  obtain ⟨v1, vs1, d1, ds1, p1, q1, rfl, rfl, rfl, h1, r1⟩ := trodAll_cons r0
  obtain ⟨v2, vs2, d2, ds2, p2, q2, rfl, rfl, rfl, h2, r2⟩ := trodAll_cons r1
  obtain ⟨rfl, rfl, rfl⟩ := trodAll_nil r2
  obtain rfl : args = #[v0, v1, v2] := by cases args; simp_all
  obtain ⟨rfl, rfl⟩ := trodVars_none hV
  obtain ⟨a0, rfl, rfl, rfl, w0⟩ := open_int Try.underlying5 (hval 0 5 v0 rfl rfl) h0
  obtain ⟨a1, rfl, rfl, rfl, w1⟩ := open_int Try.underlying5 (hval 1 5 v1 rfl rfl) h1
  have k2_ := h2
  have lt2 : ∀ x ∈ p2, x.block < W.heap.size := by obtain ⟨m, hm⟩ := k2_; exact DataW.trod_lt m _ _ _ hm
  obtain ⟨fu2, hf2⟩ := h2
  obtain ⟨sa2, sn2, sc2, rfl⟩ := okWide_slice Try.underlying40 (hval 2 40 v2 rfl rfl)
  obtain ⟨l2, hk2, gg2, hm2⟩ := (opens_slice Try.underlying40 (opens_int Try.underlying44) (by kernel_rfl)) _ _ _ _ _ _ _ _ _ hf2
  obtain ⟨A2, c2, hcs2, hc2, hr2⟩ := slice_leaf hk2
  obtain ⟨rfl, rfl, rfl⟩ : A2 = sa2 ∧ l2.length = sn2 ∧ c2 = sc2 := by simp [Value.cells] at hcs2; exact ⟨hcs2.1.symm, hcs2.2.1.symm, hcs2.2.2.symm⟩
  clear hA0 hval0 hsz0
  obtain ⟨k, hp⟩ := Pure.ThrottleKeeps a0 a1 l2 w0 w1 gg2 hm2
  refine (PA.standbylaw33_ThrottleKeeps.calls k a0 a1 A2 c2 l2 true W hr2 hc2 hp).mono ?_
  rintro e W' ⟨rfl, bel⟩
  exact ⟨_, rfl, _, _, _, [], _, [], hW', trodAll_mk1 (shut_bool Try.underlying4 _), (trodAll_cons_mk (shut_int Try.underlying5 w0) (trodAll_cons_mk (shut_int Try.underlying5 w1) (trodAll_cons_mk (Below.trod laidOut (by kernel_rfl) (of_decide_eq_true (by kernel_rfl)) k2_ bel lt2) trodAll_mk0))), rfl, bel.frame _, fun h => by cases h⟩
theorem over : Rows.throttleKeepsRow.holds Try.pinned (OpenSpec.ofChange Rows.throttleKeepsSpec) :=
  OpenClaim.holds_of_wide 5 Try.f5 rfl rfl rfl rfl rfl rfl rfl ⟨rfl, rfl, rfl, rfl, rfl⟩ rfl rfl rfl rfl rfl (by kernel_rfl) Try.func5 (by kernel_rfl)
    (of_decide_eq_true (by kernel_rfl)) (by unfold Func.isWrapper; first | (rw [if_pos (by decide +kernel)]; kernel_rfl) | (rw [if_neg (by decide +kernel)]; exact ⟨rfl, rfl⟩))
    (fun os started H enc _ => lifted os started H enc)
end Go.Proofs.Ytppniempndnghaa.throttleKeeps
namespace Go.Proofs.Ytppniempndnghaa
/-- The row, under a short name, for the claim. -/
theorem throttleKeeps_holds : Rows.ThrottleKeepsSaid := throttleKeeps.over
#print axioms throttleKeeps_holds
end Go.Proofs.Ytppniempndnghaa
