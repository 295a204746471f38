/- ThrottleAccounts: after any writes and confirmations (at most 60 steps, any objective and rate drawn out of a byte each) Backlog is what was admitted less what was confirmed, Age that of the oldest write of which something is missing, and the throttle is in order (no condition beyond the row's own domain). Here: the row, out of its pure statement and the walk. -/
import Derived.Test.YtppniempndnghaaRows
import Derived.Test.YtppniempndnghaaSThrottleAccounts
import Derived.Test.YtppniempndnghaaPureThrottleAccounts
import Derived.WalkKit
import Derived.ProofKit
import Derived.OpenShut
import Derived.ShutString
import Derived.ChangeOld
import Derived.Below
import Derived.SizedLaws
namespace Go.Proofs.Ytppniempndnghaa.throttleAccounts
open Go.ChangeShapes Go.WideShapes Go.ChangeAt Go.RowKit Go.Proofs.Ytppniempndnghaa.Open Go.Proofs.YtppniempndnghaaW.PrintWords Go.Proofs.Ytppniempndnghaa.PA
open Go.ChangeMaps (open_string shut_string)
set_option linter.unusedVariables false
theorem own : ownKnob Try.prog.godebug = none := by kernel_rfl
theorem laidOut : laidOutB Try.prog = true := by kernel_rfl
set_option maxHeartbeats 4000000 in
set_option maxRecDepth 100000 in
theorem lifted (os : Os) (started : os.Started) (H : Type) (enc : TypeId × Value → H) :
    ReturnsInHanded {} Try.checked os 7 .any (Rows.throttleAccountsSpec.pre6 enc Try.prog Try.f7 Rows.throttleAccountsRow.domain false) (Rows.throttleAccountsSpec.post enc Try.prog Try.f7 false true false false) := by
  refine returnsInHanded_of_change_sized (C := Try.checked) own started (by kernel_rfl) Try.func7
    (ChangeSpec.witness6 (enc := enc) (C := Try.checked) false ⟨#[], #[.int .u8 0, .int .u8 0, .agg #[.int .u8 0, .slice none 0 0]], []⟩ 8 (by kernel_rfl) (by kernel_rfl) (by kernel_rfl) (by kernel_rfl)) ?_
  intro W base args ds gs before hval0 hW hcnd hsz0 _
  have hval : ∀ (j : Nat) t v, Try.f7.params[j]? = some t → args[j]? = some v → Value.okWide Try.prog W .any base t v := hval0
  have hW' := hW
  obtain ⟨p, q, hA0, hV, rfl, hfz, hnd⟩ := hW
  have hA : DataW.TrodAll enc Try.prog W 0 (fun _ => true) true Try.f7.params.toList args.toList ds p := hA0
  rw [Try.params7] at hA hval
  obtain ⟨v0, vs0, d0, ds0, p0, q0, hargs, rfl, rfl, h0, r0⟩ := trodAll_cons hA
  obtain ⟨v1, vs1, d1, ds1, p1, q1, rfl, rfl, rfl, h1, r1⟩ := trodAll_cons r0
  obtain ⟨v2, vs2, d2, ds2, p2, q2, rfl, rfl, rfl, h2, r2⟩ := trodAll_cons r1
  obtain ⟨rfl, rfl, rfl⟩ := trodAll_nil r2
  obtain rfl : args = #[v0, v1, v2] := by cases args; simp_all
  obtain ⟨rfl, rfl⟩ := trodVars_none hV
  obtain ⟨a0, rfl, rfl, rfl, w0⟩ := open_int Try.underlying5 (hval 0 5 v0 rfl rfl) h0
  obtain ⟨a1, rfl, rfl, rfl, w1⟩ := open_int Try.underlying5 (hval 1 5 v1 rfl rfl) h1
  have k2_ := h2
  have lt2 : ∀ x ∈ p2, x.block < W.heap.size := by obtain ⟨m, hm⟩ := k2_; exact DataW.trod_lt m _ _ _ hm
  obtain ⟨fu2, hf2⟩ := h2
  obtain ⟨cs2, rfl, hsz2⟩ := okWide_struct Try.underlying55 (hval 2 55 v2 rfl rfl)
  replace hsz2 : cs2.size = 2 := hsz2.trans (by kernel_rfl)
  obtain ⟨e2_0, e2_1, rfl⟩ := arr_2 cs2 hsz2
  have hq2 : DataW.trod enc Try.prog W 0 (fun _ => true) true fu2 55 [e2_0, e2_1] = some (d2, p2) := hf2
  obtain ⟨xs2_1, n2_1, -, -, -, hlen2_1, hg2_1⟩ := DataW.trod_struct Try.underlying55 hq2
  obtain ⟨y2_1_0, y2_1_1, rfl⟩ := list_2 xs2_1 hlen2_1
  have hh2_1_0 := hg2_1 0 _ rfl
  replace hh2_1_0 : DataW.trod enc Try.prog W 0 (fun _ => true) true n2_1 5 [e2_0] = some y2_1_0 := by rw [show Try.prog.cellsOf _ = 1 from by kernel_rfl] at hh2_1_0; exact hh2_1_0
  obtain ⟨a2_0, he2_0, -, w2_0⟩ := DataW.trod_int Try.underlying5 hh2_1_0
  obtain rfl := List.singleton_inj.1 he2_0
  have hh2_1_1 := hg2_1 1 _ rfl
  replace hh2_1_1 : DataW.trod enc Try.prog W 0 (fun _ => true) true n2_1 53 [e2_1] = some y2_1_1 := by rw [show Try.prog.cellsOf _ = 1 from by kernel_rfl] at hh2_1_1; exact hh2_1_1
  obtain ⟨l2_1, hk2_1, gg2_1, hm2_1⟩ := (opens_slice Try.underlying53 (opens_int Try.underlying56) (by kernel_rfl)) _ _ _ _ _ _ _ _ _ hh2_1_1
  obtain ⟨A2_1, c2_1, hcs2_1, hc2_1, hr2_1⟩ := slice_leaf hk2_1
  obtain rfl := List.singleton_inj.1 hcs2_1
  clear hA0 hval0 hsz0
  obtain ⟨k, hp⟩ := Pure.ThrottleAccounts a0 a1 a2_0 l2_1 w0 w1 w2_0 gg2_1 hm2_1
  refine (PA.standbylaw33_ThrottleAccounts.calls k a0 a1 a2_0 A2_1 c2_1 l2_1 true W hr2_1 hc2_1 hp).mono ?_
  rintro e W' ⟨rfl, bel⟩
  exact ⟨_, rfl, _, _, _, [], _, [], hW', trodAll_mk1 (shut_bool Try.underlying4 _), (trodAll_cons_mk (shut_int Try.underlying5 w0) (trodAll_cons_mk (shut_int Try.underlying5 w1) (trodAll_cons_mk (Below.trod laidOut (by kernel_rfl) (of_decide_eq_true (by kernel_rfl)) k2_ bel lt2) trodAll_mk0))), rfl, bel.frame _, fun h => by cases h⟩
theorem over : Rows.throttleAccountsRow.holds Try.pinned (OpenSpec.ofChange Rows.throttleAccountsSpec) :=
  OpenClaim.holds_of_wide 7 Try.f7 rfl rfl rfl rfl rfl rfl rfl ⟨rfl, rfl, rfl, rfl, rfl⟩ rfl rfl rfl rfl rfl (by kernel_rfl) Try.func7 (by kernel_rfl)
    (of_decide_eq_true (by kernel_rfl)) (by unfold Func.isWrapper; first | (rw [if_pos (by decide +kernel)]; kernel_rfl) | (rw [if_neg (by decide +kernel)]; exact ⟨rfl, rfl⟩))
    (fun os started H enc _ => lifted os started H enc)
end Go.Proofs.Ytppniempndnghaa.throttleAccounts
namespace Go.Proofs.Ytppniempndnghaa
/-- The row, under a short name, for the claim. -/
theorem throttleAccounts_holds : Rows.ThrottleAccountsSaid := throttleAccounts.over
#print axioms throttleAccounts_holds
end Go.Proofs.Ytppniempndnghaa
