/- Store and Apply return the specified results for all targets and cycles (the pure side). -/
import Derived.Test.YtedoloapddmanaaSCommitStores
import Derived.Test.YtedoloapddmanaaCom2
import Derived.Test.YtedoloapddmanaaCom3
import Derived.Test.YtedoloapddmanaaCom6
namespace Go.Proofs.Ytedoloapddmanaa.Pure
open Go.RowKit Go.Proofs.Ytedoloapddmanaa.PB Go.Proofs.YtedoloapddmanaaW.PrintWords
theorem CommitStores : standbylaw32_CommitStores.Pure := by
  intro e s st ap cy _ _ _ _ _
  refine ⟨6000, ?_⟩
  unfold standbylaw32_CommitStores.f
  have h1 := storeP_len e s st ap cy
  have h2 := applyP_len e s st ap cy
  rw [store_f e s st ap cy _ (by omega), rstore_f e s st ap cy _ (by omega), apply_f e s st ap cy _ (by omega), rapply_f e s st ap cy _ (by omega), awake_f _ (by omega)]
  simp only [Option.bind_some, if_true, beq_self_eq_true, Bool.not_true, Bool.or_self, Bool.and_self]
  rw [sameMsgs_f _ (by omega) _ (by omega), sameMsgs_f _ (by omega) _ (by omega)]
  simp
end Go.Proofs.Ytedoloapddmanaa.Pure
