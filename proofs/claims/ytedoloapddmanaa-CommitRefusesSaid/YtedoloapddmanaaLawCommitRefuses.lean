/- CommitRefuses: in a run of at most 60 steps a message of an older epoch does not change the target, which refuses it, and a source that is refused offers nothing any more (no condition beyond the row's own domain). Here: the row, out of its pure statement and the walk. -/
import Derived.Test.YtedoloapddmanaaRows
import Derived.Test.YtedoloapddmanaaSCommitRefuses
import Derived.Test.YtedoloapddmanaaPureCommitRefuses
import Derived.WalkKit
import Derived.ProofKit
import Derived.OpenShut
import Derived.ShutString
import Derived.ChangeOld
import Derived.Below
import Derived.SizedLaws
namespace Go.Proofs.Ytedoloapddmanaa.commitRefuses
open Go.ChangeShapes Go.WideShapes Go.ChangeAt Go.RowKit Go.Proofs.Ytedoloapddmanaa.Open Go.Proofs.YtedoloapddmanaaW.PrintWords Go.Proofs.Ytedoloapddmanaa.PB
open Go.ChangeMaps (open_string shut_string)
set_option linter.unusedVariables false
theorem own : ownKnob Try.prog.godebug = none := by kernel_rfl
theorem laidOut : laidOutB Try.prog = true := by kernel_rfl
set_option maxHeartbeats 4000000 in
set_option maxRecDepth 100000 in
theorem lifted (os : Os) (started : os.Started) (H : Type) (enc : TypeId × Value → H) :
    ReturnsInHanded {} Try.checked os 11 .any (Rows.commitRefusesSpec.pre6 enc Try.prog Try.f11 Rows.commitRefusesRow.domain false) (Rows.commitRefusesSpec.post enc Try.prog Try.f11 false true false false) := by
  refine returnsInHanded_of_change_sized (C := Try.checked) own started (by kernel_rfl) Try.func11
    (ChangeSpec.witness6 (enc := enc) (C := Try.checked) false ⟨#[], #[.slice none 0 0], []⟩ 8 (by kernel_rfl) (by kernel_rfl) (by kernel_rfl) (by kernel_rfl)) ?_
  intro W base args ds gs before hval0 hW hcnd hsz0 _
  have hval : ∀ (j : Nat) t v, Try.f11.params[j]? = some t → args[j]? = some v → Value.okWide Try.prog W .any base t v := hval0
  have hW' := hW
  obtain ⟨p, q, hA0, hV, rfl, hfz, hnd⟩ := hW
  have hA : DataW.TrodAll enc Try.prog W 0 (fun _ => true) true Try.f11.params.toList args.toList ds p := hA0
  rw [Try.params11] at hA hval
  obtain ⟨v0, vs0, d0, ds0, p0, q0, hargs, rfl, rfl, h0, r0⟩ := trodAll_cons hA
  obtain ⟨rfl, rfl, rfl⟩ := trodAll_nil r0
  obtain rfl : args = #[v0] := by cases args; simp_all
  obtain ⟨rfl, rfl⟩ := trodVars_none hV
  have k0_ := h0
  have lt0 : ∀ x ∈ p0, x.block < W.heap.size := by obtain ⟨m, hm⟩ := k0_; exact DataW.trod_lt m _ _ _ hm
  obtain ⟨fu0, hf0⟩ := h0
  obtain ⟨sa0, sn0, sc0, rfl⟩ := okWide_slice Try.underlying65 (hval 0 65 v0 rfl rfl)
  obtain ⟨l0, hk0, gg0, hm0⟩ := (opens_slice Try.underlying65 opens_T71 (by kernel_rfl)) _ _ _ _ _ _ _ _ _ hf0
  obtain ⟨A0, c0, hcs0, hc0, hr0⟩ := slice_leaf hk0
  obtain ⟨rfl, rfl, rfl⟩ : A0 = sa0 ∧ l0.length = sn0 ∧ c0 = sc0 := by simp [Value.cells] at hcs0; exact ⟨hcs0.1.symm, hcs0.2.1.symm, hcs0.2.2.symm⟩
  clear hA0 hval0 hsz0
  obtain ⟨k, hp⟩ := Pure.CommitRefuses l0 gg0 hm0
  refine (PB.standbylaw32_CommitRefuses.calls k A0 c0 l0 true W hr0 hc0 hp).mono ?_
  rintro e W' ⟨rfl, bel⟩
  exact ⟨_, rfl, _, _, _, [], _, [], hW', trodAll_mk1 (shut_bool Try.underlying4 _), (trodAll_cons_mk (Below.trod laidOut (by kernel_rfl) (of_decide_eq_true (by kernel_rfl)) k0_ bel lt0) trodAll_mk0), rfl, bel.frame _, fun h => by cases h⟩
theorem over : Rows.commitRefusesRow.holds Try.pinned (OpenSpec.ofChange Rows.commitRefusesSpec) :=
  OpenClaim.holds_of_wide 11 Try.f11 rfl rfl rfl rfl rfl rfl rfl ⟨rfl, rfl, rfl, rfl, rfl⟩ rfl rfl rfl rfl rfl (by kernel_rfl) Try.func11 (by kernel_rfl)
    (of_decide_eq_true (by kernel_rfl)) (by unfold Func.isWrapper; first | (rw [if_pos (by decide +kernel)]; kernel_rfl) | (rw [if_neg (by decide +kernel)]; exact ⟨rfl, rfl⟩))
    (fun os started H enc _ => lifted os started H enc)
end Go.Proofs.Ytedoloapddmanaa.commitRefuses
namespace Go.Proofs.Ytedoloapddmanaa
/-- The row, under a short name, for the claim. -/
theorem commitRefuses_holds : Rows.CommitRefusesSaid := commitRefuses.over
#print axioms commitRefuses_holds
end Go.Proofs.Ytedoloapddmanaa
