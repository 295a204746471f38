/- Offer, Resend and Releasable return the specified results for all sources and cycles (the pure side). -/
import Derived.Test.YtedoloapddmanaaSCommitOffers
import Derived.Test.YtedoloapddmanaaCom2
import Derived.Test.YtedoloapddmanaaCom3
import Derived.Test.YtedoloapddmanaaCom4
namespace Go.Proofs.Ytedoloapddmanaa.Pure
open Go.RowKit Go.Proofs.Ytedoloapddmanaa.PB Go.Proofs.YtedoloapddmanaaW.PrintWords
theorem CommitOffers : standbylaw32_CommitOffers.Pure := by
  intro e s l st ap cy _ _ _ hm _ _ _
  refine ⟨6000, ?_⟩
  unfold standbylaw32_CommitOffers.f
  by_cases h : (l.length : Int) > 1100
  · rw [if_pos h, awake_f _ (by omega)]; rfl
  · have hl : l.length ≤ 1100 := by omega
    have hr := resendP_len e s st ap l
    rw [if_neg h, offer_f e s st ap cy l (by omega) _ (by omega), roffer_f e s st ap cy l (by omega) _ (by omega), awake_f _ (by omega), resend_f e s st ap l (by omega) _ (by omega), rresend_f e s st ap l (by omega) _ (by omega), releasable_f e s st ap l (by omega) _ (by omega), rreleasable_f e s st ap l (by omega) _ (by omega)]
    simp only [Option.bind_some, if_true]
    have h1 : (offerP e s l st ap cy).2.2.1.length ≤ 1101 ∧ (offerP e s l st ap cy).2.2.2.2.2.1.length ≤ 1 := by
      unfold offerP
      repeat' split
      all_goals simp
      all_goals omega
    rw [same_f _ _ _ _ _ (by omega) _ (by omega), sameMsgs_f _ (by omega) _ (by omega), sameMsgs_f _ (by omega) _ (by omega)]
    simp
end Go.Proofs.Ytedoloapddmanaa.Pure
