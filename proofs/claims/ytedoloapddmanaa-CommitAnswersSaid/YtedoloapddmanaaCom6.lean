/- Plain laws of commit: Store, Apply. -/
import Derived.Test.YtedoloapddmanaaPBx11
import Derived.Test.YtedoloapddmanaaPBx14
import Derived.Test.YtedoloapddmanaaPBx23
import Derived.Test.YtedoloapddmanaaCom1
import Derived.Test.YtedoloapddmanaaCom3
namespace Go.Proofs.Ytedoloapddmanaa.PB
open Go.RowKit Go.Proofs.YtedoloapddmanaaW.PrintWords Go.Proofs.YtedoloapddmanaaW.PrintLast Go.Proofs.YtedoloapddmanaaW.PrintMore
set_option linter.unusedVariables false
set_option linter.unusedSimpArgs false
def storeP (e s st ap cy : Int) : Int × Int × Int × Int × List S53 × Int :=
  if ckT e s st ap = 0 then (if cy ≤ st then (0, 0, 0, 0, [], 8) else if cy > 1073741824 then (0, 0, 0, 0, [], 2) else (e, s, cy, ap, [⟨9, s, 0, 0, cy, e, (), ()⟩], 0)) else (0, 0, 0, 0, [], ckT e s st ap)
def applyP (e s st ap cy : Int) : Int × Int × Int × Int × List S53 × Int :=
  if ckT e s st ap = 0 then (if cy ≤ ap then (0, 0, 0, 0, [], 8) else if cy > st then (0, 0, 0, 0, [], 15) else (e, s, st, cy, [⟨11, s, 0, 0, cy, e, (), ()⟩], 0)) else (0, 0, 0, 0, [], ckT e s st ap)
theorem store_f (e s st ap cy : Int) (k : Nat) (hk : 1 ≤ k) : commit_Store.f k e s st ap cy = some (storeP e s st ap cy) := by
  unfold commit_Store.f storeP
  rw [checkT_f e s st ap k hk, Option.bind_some]
  repeat' split
  all_goals rfl
theorem rstore_f (e s st ap cy : Int) (k : Nat) (hk : 1 ≤ k) : standbyref32_Store.f k e s st ap cy = some (storeP e s st ap cy) := by
  unfold standbyref32_Store.f storeP
  rw [rcheckT_f e s st ap k hk, Option.bind_some]
  repeat' split
  all_goals rfl
theorem apply_f (e s st ap cy : Int) (k : Nat) (hk : 1 ≤ k) : commit_Apply.f k e s st ap cy = some (applyP e s st ap cy) := by
  unfold commit_Apply.f applyP
  rw [checkT_f e s st ap k hk, Option.bind_some]
  repeat' split
  all_goals rfl
theorem rapply_f (e s st ap cy : Int) (k : Nat) (hk : 1 ≤ k) : standbyref32_Apply.f k e s st ap cy = some (applyP e s st ap cy) := by
  unfold standbyref32_Apply.f applyP
  rw [rcheckT_f e s st ap k hk, Option.bind_some]
  repeat' split
  all_goals rfl
theorem storeP_len (e s st ap cy : Int) : (storeP e s st ap cy).2.2.2.2.1.length ≤ 1 := by
  unfold storeP
  repeat' split
  all_goals simp
theorem applyP_len (e s st ap cy : Int) : (applyP e s st ap cy).2.2.2.2.1.length ≤ 1 := by
  unfold applyP
  repeat' split
  all_goals simp
theorem ckT0 {e s st ap : Int} (h : ckT e s st ap = 0) : (0 ≤ e ∧ e ≤ 1073741824) ∧ (0 ≤ s ∧ s < 4) ∧ 0 ≤ ap ∧ ap ≤ st ∧ st ≤ 1073741824 := by
  unfold ckT at h
  by_cases h1 : (decide (0 ≤ e ∧ e ≤ 1073741824) && decide (0 ≤ s ∧ s < 4)) = true
  · rw [if_pos h1] at h
    simp only [Bool.and_eq_true, decide_eq_true_eq] at h1
    repeat' split at h
    all_goals first | cases h; done | exact ⟨h1.1, h1.2, by omega, by omega, by omega⟩
  · rw [if_neg h1] at h; cases h
end Go.Proofs.Ytedoloapddmanaa.PB
