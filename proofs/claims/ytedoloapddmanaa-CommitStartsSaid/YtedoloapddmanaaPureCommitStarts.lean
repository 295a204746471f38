/- NewSource, NewTarget, CheckSource and CheckTarget return the specified results for all arguments (the pure side). -/
import Derived.Test.YtedoloapddmanaaSCommitStarts
import Derived.Test.YtedoloapddmanaaCom1
import Derived.Test.YtedoloapddmanaaCom2
namespace Go.Proofs.Ytedoloapddmanaa.Pure
open Go.RowKit Go.Proofs.Ytedoloapddmanaa.PB Go.Proofs.YtedoloapddmanaaW.PrintWords
theorem CommitStarts : standbylaw32_CommitStarts.Pure := by
  intro e s l st ap e' s' st' ap' _ _ _ hm _ _ _ _ _ _
  refine ⟨3000, ?_⟩
  unfold standbylaw32_CommitStarts.f
  by_cases h : (l.length : Int) > 1100
  · rw [if_pos h, awake_f _ (by omega)]; rfl
  · have hl : l.length ≤ 1100 := by omega
    rw [if_neg h, newS_f, rnewS_f, newT_f, rnewT_f, awake_f _ (by omega), check_f e s st ap l (by omega) _ (by omega), rcheck_f e s st ap l (by omega) _ (by omega), checkT_f _ _ _ _ _ (by omega), rcheckT_f _ _ _ _ _ (by omega)]
    simp only [Option.bind_some, if_true]
    have hs : ∀ (x : Int × Int × List Int × Int × Int × Int), x.2.2.1.length ≤ 1000 → standbyref32_Same.f 3000 x.1 x.2.1 x.2.2.1 x.2.2.2.1 x.2.2.2.2.1 x.1 x.2.1 x.2.2.1 x.2.2.2.1 x.2.2.2.2.1 = some true := fun x hx => same_f _ _ _ _ _ (by omega) _ (by omega)
    rw [hs _ (by split <;> simp)]
    simp
end Go.Proofs.Ytedoloapddmanaa.Pure
