/- Plain laws of commit: Offer, Resend, Releasable. -/
import Derived.Test.YtedoloapddmanaaPBx5
import Derived.Test.YtedoloapddmanaaPBx7
import Derived.Test.YtedoloapddmanaaPBx8
import Derived.Test.YtedoloapddmanaaPBx9
import Derived.Test.YtedoloapddmanaaPBx13
import Derived.Test.YtedoloapddmanaaPBx16
import Derived.Test.YtedoloapddmanaaPBx19
import Derived.Test.YtedoloapddmanaaCom1
import Derived.Test.YtedoloapddmanaaCom3
namespace Go.Proofs.Ytedoloapddmanaa.PB
open Go.RowKit Go.Proofs.YtedoloapddmanaaW.PrintWords Go.Proofs.YtedoloapddmanaaW.PrintLast Go.Proofs.YtedoloapddmanaaW.PrintMore
set_option linter.unusedVariables false
set_option linter.unusedSimpArgs false
theorem copy_f (e s st ap : Int) (l : List Int) (hl : l.length ≤ 1000000) : standbyref32_Copy.f e s l st ap = some (e, s, l, st, ap) := by
  unfold standbyref32_Copy.f
  rw [if_pos (by simp; omega)]
  rfl
def offerP (e s : Int) (l : List Int) (st ap cy : Int) : Int × Int × List Int × Int × Int × List S53 × Int :=
  if ckS e s l st ap = 0 then (if cy ≤ lastOf ap l then (0, 0, [], 0, 0, [], 8) else if 1073741824 < cy then (0, 0, [], 0, 0, [], 2) else if 1024 ≤ l.length then (0, 0, [], 0, 0, [], 6) else (e, s, l ++ [cy], st, ap, [⟨8, 0, s, cy, 0, e, (), ()⟩], 0)) else (0, 0, [], 0, 0, [], ckS e s l st ap)
theorem offer_f (e s st ap cy : Int) (l : List Int) (hl : l.length ≤ 100000) (k : Nat) (hk : 2 * l.length + 3 ≤ k) : commit_Offer.f k e s l st ap cy = some (offerP e s l st ap cy) := by
  unfold commit_Offer.f offerP
  rw [if_pos hl, check_f e s st ap l (by omega) k (by omega)]
  simp only [Option.bind_some]
  by_cases h : ckS e s l st ap = 0
  · rw [if_pos h, if_pos h]
    repeat' split
    all_goals first | rfl | omega
  · rw [if_neg h, if_neg h]
theorem roffer_j0 (e s st ap cy la : Int) (l : List Int) (hl : l.length ≤ 100000) (k : Nat) (hk : 1 ≤ k) :
    standbyref32_Offer.j0 k cy la e s l st ap = some (if cy ≤ la then (0, 0, [], 0, 0, [], 8) else if 1073741824 < cy then (0, 0, [], 0, 0, [], 2) else if 1024 ≤ l.length then (0, 0, [], 0, 0, [], 6) else (e, s, l ++ [cy], st, ap, [⟨8, 0, s, cy, 0, e, (), ()⟩], 0)) := by
  obtain ⟨k, rfl⟩ : ∃ m, k = m + 1 := ⟨k - 1, by omega⟩
  simp only [standbyref32_Offer.j0, copy_f e s st ap l (by omega), Option.bind_some, standbyref32_toTarget.f]
  rw [if_pos (by omega : l.length < 17592186044416)]
  repeat' split
  all_goals first | rfl | omega
theorem roffer_f (e s st ap cy : Int) (l : List Int) (hl : l.length ≤ 100000) (k : Nat) (hk : 2 * l.length + 3 ≤ k) : standbyref32_Offer.f k e s l st ap cy = some (offerP e s l st ap cy) := by
  unfold standbyref32_Offer.f offerP lastOf
  rw [rcheck_f e s st ap l (by omega) k (by omega), Option.bind_some]
  by_cases h : ckS e s l st ap = 0
  · rw [if_pos h, if_pos h]
    by_cases h0 : l.length = 0
    · rw [if_neg (by omega), if_pos h0]
      exact roffer_j0 e s st ap cy ap l hl k (by omega)
    · rw [if_pos (by omega), if_neg h0, w64 (by omega), if_pos (by omega), if_pos (by omega)]
      exact roffer_j0 e s st ap cy _ l hl k (by omega)
  · rw [if_neg h, if_neg h]
def resendP (e s : Int) (l : List Int) (st ap : Int) : List S53 :=
  if ckS e s l st ap = 0 then (if ap < st then [⟨10, 0, s, st, 0, e, (), ()⟩] ++ rsMsgs e s st l else [] ++ rsMsgs e s st l) else []
theorem resend_f (e s st ap : Int) (l : List Int) (hl : l.length ≤ 100000) (k : Nat) (hk : 2 * l.length + 3 ≤ k) : commit_Resend.f k e s l st ap = some (resendP e s l st ap) := by
  unfold commit_Resend.f resendP
  rw [if_pos hl, check_f e s st ap l (by omega) k (by omega), Option.bind_some]
  repeat' split
  all_goals rfl
theorem rresend_l0 (e s st ap : Int) (l : List Int) (hl : l.length ≤ 100000) : ∀ (d i : Nat), i + d = l.length → ∀ k (acc : List S53), d + 1 ≤ k → acc.length + d ≤ 200000 →
    standbyref32_Resend.l0 k acc (i : Int) e s l st ap = some (acc ++ rsMsgs e s st (l.drop i))
  | 0, i, h, k, acc, hk, ha => by
    obtain ⟨k, rfl⟩ : ∃ m, k = m + 1 := ⟨k - 1, by omega⟩
    unfold standbyref32_Resend.l0
    rw [if_neg (by omega), List.drop_of_length_le (by omega)]
    simp [rsMsgs]
  | d + 1, i, h, k, acc, hk, ha => by
    obtain ⟨k, rfl⟩ : ∃ m, k = m + 1 := ⟨k - 1, by omega⟩
    unfold standbyref32_Resend.l0
    rw [if_pos (by omega), if_pos (by omega), drop_rd l i (by omega), w64 (by omega), show ((i : Int) + 1) = ((i + 1 : Nat) : Int) by omega]
    by_cases hx : rd l (i : Int) > st
    · rw [if_pos hx]
      simp only [Option.bind_some, standbyref32_toTarget.f]
      rw [if_pos (by omega), rresend_l0 e s st ap l hl d (i + 1) (by omega) k _ (by omega) (by simp; omega)]
      simp only [rsMsgs]
      rw [List.filter_cons, if_pos (by simpa using hx)]
      simp
    · rw [if_neg hx, rresend_l0 e s st ap l hl d (i + 1) (by omega) k _ (by omega) (by omega)]
      simp only [rsMsgs]
      rw [List.filter_cons, if_neg (by simpa using hx)]
theorem rresend_j0 (e s st ap : Int) (l : List Int) (hl : l.length ≤ 100000) (k : Nat) (acc : List S53) (hk : l.length + 2 ≤ k) (ha : acc.length ≤ 1000) :
    standbyref32_Resend.j0 k acc e s l st ap = some (acc ++ rsMsgs e s st l) := by
  obtain ⟨k, rfl⟩ : ∃ m, k = m + 1 := ⟨k - 1, by omega⟩
  unfold standbyref32_Resend.j0
  have h := rresend_l0 e s st ap l hl l.length 0 (by omega) k acc (by omega) (by omega)
  rw [List.drop_zero] at h
  exact h
theorem rresend_f (e s st ap : Int) (l : List Int) (hl : l.length ≤ 100000) (k : Nat) (hk : 2 * l.length + 3 ≤ k) : standbyref32_Resend.f k e s l st ap = some (resendP e s l st ap) := by
  unfold standbyref32_Resend.f resendP
  rw [rcheck_f e s st ap l (by omega) k (by omega), Option.bind_some]
  by_cases h : ckS e s l st ap = 0
  · rw [if_pos h, if_pos h]
    by_cases h1 : st > ap
    · rw [if_pos h1, if_pos h1]
      simp only [Option.bind_some, standbyref32_toTarget.f]
      rw [if_pos (by simp)]
      exact rresend_j0 e s st ap l hl k _ (by omega) (by simp)
    · rw [if_neg h1, if_neg h1]
      exact rresend_j0 e s st ap l hl k _ (by omega) (by simp)
  · rw [if_neg h, if_neg h]
theorem resendP_len (e s st ap : Int) (l : List Int) : (resendP e s l st ap).length ≤ l.length + 1 := by
  have h : (rsMsgs e s st l).length ≤ l.length := by unfold rsMsgs; rw [List.length_map]; exact List.length_filter_le _ _
  unfold resendP
  repeat' split
  all_goals simp
  all_goals omega
theorem releasable_f (e s st ap : Int) (l : List Int) (hl : l.length ≤ 100000) (k : Nat) (hk : 2 * l.length + 3 ≤ k) : commit_Releasable.f k e s l st ap = some (if ckS e s l st ap = 0 then ap else 0) := by
  unfold commit_Releasable.f
  rw [check_f e s st ap l (by omega) k (by omega), Option.bind_some]
  split <;> rfl
theorem rreleasable_f (e s st ap : Int) (l : List Int) (hl : l.length ≤ 100000) (k : Nat) (hk : 2 * l.length + 3 ≤ k) : standbyref32_Releasable.f k e s l st ap = some (if ckS e s l st ap = 0 then ap else 0) := by
  unfold standbyref32_Releasable.f
  rw [rcheck_f e s st ap l (by omega) k (by omega), Option.bind_some]
  split <;> rfl
end Go.Proofs.Ytedoloapddmanaa.PB
