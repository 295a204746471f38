/- What the functions of commit come to. -/
import Derived.Test.YtedoloapddmanaaPBx2
import Derived.Test.YtedoloapddmanaaPBx3
import Derived.Test.YtedoloapddmanaaPBx5
import Derived.Test.YtedoloapddmanaaPBx7
import Derived.Test.YtedoloapddmanaaPBx8
import Derived.Test.YtedoloapddmanaaPBx9
import Derived.Test.YtedoloapddmanaaPBx10
import Derived.Test.YtedoloapddmanaaPBx11
import Derived.Test.YtedoloapddmanaaPBx25
namespace Go.Proofs.Ytedoloapddmanaa.PB
open Go.RowKit Go.Proofs.YtedoloapddmanaaW.PrintWords Go.Proofs.YtedoloapddmanaaW.PrintLast Go.Proofs.YtedoloapddmanaaW.PrintMore
set_option linter.unusedVariables false
set_option linter.unusedSimpArgs false
theorem w64 {x : Int} (h : -9223372036854775808 ≤ x ∧ x ≤ 9223372036854775807) : wrap64 x = x := by unfold wrap64; omega
theorem drop_rd (l : List Int) (i : Nat) (h : i < l.length) : l.drop i = rd l (i : Int) :: l.drop (i + 1) := by
  rw [List.drop_eq_getElem_cons h]
  congr 1
  unfold rd
  rw [Int.toNat_natCast, List.getD_eq_getElem?_getD, List.getElem?_eq_getElem h]
  rfl
theorem more {α : Type} {g : Nat → Option α} (hm : ∀ k, LeO (g k) (g (k + 1))) {r : α} {k0 : Nat} (h : g k0 = some r) : ∀ k, k0 ≤ k → g k = some r := by
  intro k hk
  obtain ⟨d, rfl⟩ : ∃ d, k = k0 + d := ⟨k - k0, by omega⟩
  clear hk
  induction d with
  | zero => exact h
  | succ d ih => exact hm _ _ ih
theorem index_l0 (l : List Int) (x : Int) (hl : l.length ≤ 1000000) : ∀ (d i : Nat), i + d = l.length → ∀ k, d + 1 ≤ k →
    slices_Index_int_int.l0 k l x (l.length : Int) (i : Int) = some (if x ∈ l.drop i then ((i + (l.drop i).idxOf x : Nat) : Int) else -1)
  | 0, i, h, k, hk => by
    obtain ⟨k, rfl⟩ : ∃ m, k = m + 1 := ⟨k - 1, by omega⟩
    unfold slices_Index_int_int.l0
    rw [if_neg (by omega), List.drop_of_length_le (by omega)]
    simp
  | d + 1, i, h, k, hk => by
    obtain ⟨k, rfl⟩ : ∃ m, k = m + 1 := ⟨k - 1, by omega⟩
    unfold slices_Index_int_int.l0
    rw [if_pos (by omega), if_pos (by omega), if_pos (by omega), drop_rd l i (by omega)]
    by_cases hx : x = rd l (i : Int)
    · rw [if_pos hx, ← hx]
      simp
    · rw [if_neg hx, w64 (by omega)]
      have ih := index_l0 l x hl d (i + 1) (by omega) k (by omega)
      rw [show ((i : Int) + 1) = ((i + 1 : Nat) : Int) by omega, ih]
      by_cases hm : x ∈ l.drop (i + 1)
      · rw [if_pos hm, if_pos (List.mem_cons_of_mem _ hm), List.idxOf_cons, show (rd l (i : Int) == x) = false by simpa using fun h => hx (Eq.symm h), cond_false]
        congr 2
        omega
      · rw [if_neg hm, if_neg (by simp [hx, hm])]
theorem index_f (l : List Int) (x : Int) (hl : l.length ≤ 1000000) (k : Nat) (hk : l.length + 1 ≤ k) : slices_Index_int_int.f k l x = some (if x ∈ l then (l.idxOf x : Int) else -1) := by
  unfold slices_Index_int_int.f
  have h := index_l0 l x hl l.length 0 (by omega) k (by omega)
  simpa using h
theorem contains_f (l : List Int) (x : Int) (hl : l.length ≤ 1000000) (k : Nat) (hk : l.length + 1 ≤ k) : slices_Contains_int_int.f k l x = some (decide (x ∈ l)) := by
  unfold slices_Contains_int_int.f
  rw [index_f l x hl k hk]
  by_cases h : x ∈ l
  · rw [if_pos h]; simp [h]
  · rw [if_neg h]; simp [h]
theorem time_f (a : Int) : commit_time.f a = some (decide (0 ≤ a ∧ a ≤ 1073741824)) := by
  unfold commit_time.f
  by_cases h : a ≥ 0
  · rw [if_pos h]; congr 1; rw [decide_eq_decide]; omega
  · rw [if_neg h]; congr 1; symm; rw [decide_eq_false_iff_not]; omega
theorem site_f (a : Int) : commit_site.f a = some (decide (0 ≤ a ∧ a < 4)) := by
  unfold commit_site.f
  by_cases h : a ≥ 0
  · rw [if_pos h]; congr 1; rw [decide_eq_decide]; omega
  · rw [if_neg h]; congr 1; symm; rw [decide_eq_false_iff_not]; omega
/-- The numbers of a source or target are in their ranges. -/
def rightB (a b c : Int) : Bool := decide (0 ≤ a ∧ a ≤ 1073741824) && (decide (0 ≤ b ∧ b < 4) && decide (0 ≤ c ∧ c ≤ 1073741824))
theorem right_f (a b c : Int) : commit_right.f a b c = some (rightB a b c) := by
  unfold commit_right.f rightB
  rw [time_f, time_f, site_f]
  simp only [Option.bind_some]
  cases decide (0 ≤ a ∧ a ≤ 1073741824) <;> cases decide (0 ≤ b ∧ b < 4) <;> simp
/-- A list rises from a number on, within the range. -/
def risesB : Int → List Int → Bool
  | _, [] => true
  | a, n :: r => if n ≤ a then false else if n > 1073741824 then false else risesB n r
/-- The code of a source. -/
def ckS (e s : Int) (l : List Int) (st ap : Int) : Int :=
  if rightB e s ap = true then (if (l.length : Int) > 1024 then 6 else if risesB ap l = true then (if st = ap then 0 else if st ∈ l then 0 else 12) else 3) else 2
theorem check_l0 (e s st ap : Int) (l : List Int) (hl : l.length ≤ 1000000) : ∀ (d i : Nat), i + d = l.length → ∀ k a, l.length + d + 2 ≤ k →
    commit_CheckSource.l0 k a l (l.length : Int) (i : Int) e s l st ap = some (if risesB a (l.drop i) = true then (if st = ap then 0 else if st ∈ l then 0 else 12) else 3)
  | 0, i, h, k, a, hk => by
    obtain ⟨k, rfl⟩ : ∃ m, k = m + 1 := ⟨k - 1, by omega⟩
    unfold commit_CheckSource.l0
    rw [if_neg (by omega), List.drop_of_length_le (by omega), show risesB a [] = true from rfl, if_pos (rfl : true = true)]
    by_cases h1 : st = ap
    · rw [if_pos h1, if_pos h1]
    · rw [if_neg h1, if_neg h1, contains_f l st hl k (by omega)]
      simp only [Option.bind_some]
      by_cases h2 : st ∈ l
      · rw [if_pos (decide_eq_true h2), if_pos h2]
      · rw [if_neg (by simp [h2]), if_neg h2]
  | d + 1, i, h, k, a, hk => by
    obtain ⟨k, rfl⟩ : ∃ m, k = m + 1 := ⟨k - 1, by omega⟩
    unfold commit_CheckSource.l0
    rw [if_pos (by omega), if_pos (by omega), if_pos (by omega), drop_rd l i (by omega)]
    unfold risesB
    by_cases h1 : rd l (i : Int) ≤ a
    · rw [if_pos h1, if_pos h1, if_neg (by decide)]
    · rw [if_neg h1, if_neg h1]
      by_cases h2 : rd l (i : Int) > 1073741824
      · rw [if_pos h2, if_pos h2, if_neg (by decide)]
      · rw [if_neg h2, if_neg h2, w64 (by omega)]
        have ih := check_l0 e s st ap l hl d (i + 1) (by omega) k (rd l (i : Int)) (by omega)
        rw [show ((i : Int) + 1) = ((i + 1 : Nat) : Int) by omega]
        exact ih
theorem check_f (e s st ap : Int) (l : List Int) (hl : l.length ≤ 1000000) (k : Nat) (hk : 2 * l.length + 2 ≤ k) : commit_CheckSource.f k e s l st ap = some (ckS e s l st ap) := by
  unfold commit_CheckSource.f ckS
  rw [right_f]
  simp only [Option.bind_some]
  cases rightB e s ap with
  | false => rfl
  | true =>
    rw [if_pos rfl, if_pos rfl]
    by_cases h : (l.length : Int) > 1024
    · rw [if_pos h, if_pos h]
    · rw [if_neg h, if_neg h]
      have h := check_l0 e s st ap l hl l.length 0 (by omega) k ap (by omega)
      simpa using h
/-- The code of a target. -/
def ckT (e s st ap : Int) : Int := if (decide (0 ≤ e ∧ e ≤ 1073741824) && decide (0 ≤ s ∧ s < 4)) = true then (if ap < 0 then 3 else if st < ap then 3 else if st > 1073741824 then 3 else 0) else 2
theorem checkT_f (e s st ap : Int) (k : Nat) (hk : 1 ≤ k) : commit_CheckTarget.f k e s st ap = some (ckT e s st ap) := by
  obtain ⟨k, rfl⟩ : ∃ m, k = m + 1 := ⟨k - 1, by omega⟩
  unfold commit_CheckTarget.f ckT
  rw [time_f, site_f]
  simp only [Option.bind_some]
  cases decide (0 ≤ e ∧ e ≤ 1073741824) <;> cases decide (0 ≤ s ∧ s < 4) <;> simp [commit_CheckTarget.j0]
  all_goals (repeat' split) <;> first | rfl | omega
theorem newS_f (e s ap : Int) : commit_NewSource.f e s ap = some (if rightB e s ap = true then (e, s, [], ap, ap, 0) else (0, 0, [], 0, 0, 2)) := by
  unfold commit_NewSource.f
  rw [right_f]
  simp only [Option.bind_some]
  split <;> rfl
theorem newT_f (e s ap : Int) : commit_NewTarget.f e s ap = some (if rightB e s ap = true then (e, s, ap, ap, 0) else (0, 0, 0, 0, 2)) := by
  unfold commit_NewTarget.f
  rw [right_f]
  simp only [Option.bind_some]
  split <;> rfl
theorem rises_gt : ∀ (l : List Int) (a : Int), risesB a l = true → ∀ x ∈ l, a < x
  | [], _, _, x, hx => by simp at hx
  | m :: r, a, h, x, hx => by
    unfold risesB at h
    by_cases h1 : m ≤ a
    · rw [if_pos h1] at h; cases h
    rw [if_neg h1] at h
    by_cases h2 : m > 1073741824
    · rw [if_pos h2] at h; cases h
    rw [if_neg h2] at h
    rcases List.mem_cons.1 hx with rfl | hx
    · omega
    · have := rises_gt r m h x hx; omega
theorem rises_tail {m a : Int} {r : List Int} (h : risesB a (m :: r) = true) : a < m ∧ m ≤ 1073741824 ∧ risesB m r = true := by
  unfold risesB at h
  by_cases h1 : m ≤ a
  · rw [if_pos h1] at h; cases h
  rw [if_neg h1] at h
  by_cases h2 : m > 1073741824
  · rw [if_pos h2] at h; cases h
  rw [if_neg h2] at h
  exact ⟨by omega, by omega, h⟩
theorem rises_filter : ∀ (l : List Int) (a n : Int), risesB a l = true → n ∈ l → l.filter (fun x => decide (n < x)) = l.drop (l.idxOf n + 1)
  | [], _, n, _, hn => by simp at hn
  | m :: r, a, n, h, hn => by
    obtain ⟨h1, h2, h3⟩ := rises_tail h
    by_cases e : n = m
    · subst e
      have : r.filter (fun x => decide (n < x)) = r := List.filter_eq_self.2 fun x hx => by simpa using rises_gt r n h3 x hx
      simp [this]
    · have hn' : n ∈ r := (List.mem_cons.1 hn).resolve_left e
      have hg := rises_gt r m h3 n hn'
      rw [List.filter_cons, if_neg (by simp; omega), rises_filter r m n h3 hn', List.idxOf_cons, show (m == n) = false by simpa using fun h => e h.symm, cond_false]
      rfl
theorem ck0 {e s st ap : Int} {l : List Int} (h : ckS e s l st ap = 0) : (0 ≤ e ∧ e ≤ 1073741824) ∧ (0 ≤ s ∧ s < 4) ∧ (0 ≤ ap ∧ ap ≤ 1073741824) ∧ l.length ≤ 1024 ∧ risesB ap l = true ∧ (st = ap ∨ st ∈ l) := by
  unfold ckS at h
  by_cases h1 : rightB e s ap = true
  · rw [if_pos h1] at h
    unfold rightB at h1
    simp only [Bool.and_eq_true, decide_eq_true_eq] at h1
    by_cases h2 : (l.length : Int) > 1024
    · rw [if_pos h2] at h; cases h
    rw [if_neg h2] at h
    by_cases h3 : risesB ap l = true
    · rw [if_pos h3] at h
      refine ⟨h1.1, h1.2.1, h1.2.2, by omega, h3, ?_⟩
      by_cases h4 : st = ap
      · exact .inl h4
      · rw [if_neg h4] at h
        by_cases h5 : st ∈ l
        · exact .inr h5
        · rw [if_neg h5] at h; cases h
    · rw [if_neg h3] at h; cases h
  · rw [if_neg h1] at h; cases h
/-- What Offer comes to. -/
def offerP (e s : Int) (l : List Int) (st ap cy : Int) : Int × Int × List Int × Int × Int × List S53 × Int :=
  if ckS e s l st ap = 0 then (if cy ≤ lastOf ap l then (0, 0, [], 0, 0, [], 8) else if 1073741824 < cy then (0, 0, [], 0, 0, [], 2) else if 1024 ≤ l.length then (0, 0, [], 0, 0, [], 6) else (e, s, l ++ [cy], st, ap, [⟨8, 0, s, cy, 0, e, (), ()⟩], 0)) else (0, 0, [], 0, 0, [], ckS e s l st ap)
theorem offer_f (e s st ap cy : Int) (l : List Int) (hl : l.length ≤ 100000) (k : Nat) (hk : 2 * l.length + 3 ≤ k) : commit_Offer.f k e s l st ap cy = some (offerP e s l st ap cy) := by
  unfold commit_Offer.f offerP
  rw [if_pos hl, check_f e s st ap l (by omega) k (by omega)]
  simp only [Option.bind_some]
  by_cases h : ckS e s l st ap = 0
  · rw [if_pos h, if_pos h]
    repeat' split
    all_goals first | rfl | omega
  · rw [if_neg h, if_neg h]
/-- What Resend comes to. -/
def resendP (e s : Int) (l : List Int) (st ap : Int) : List S53 :=
  if ckS e s l st ap = 0 then (if ap < st then [⟨10, 0, s, st, 0, e, (), ()⟩] ++ rsMsgs e s st l else [] ++ rsMsgs e s st l) else []
theorem resend_f (e s st ap : Int) (l : List Int) (hl : l.length ≤ 100000) (k : Nat) (hk : 2 * l.length + 3 ≤ k) : commit_Resend.f k e s l st ap = some (resendP e s l st ap) := by
  unfold commit_Resend.f resendP
  rw [if_pos hl, check_f e s st ap l (by omega) k (by omega), Option.bind_some]
  repeat' split
  all_goals rfl
theorem resendP_len (e s st ap : Int) (l : List Int) : (resendP e s l st ap).length ≤ l.length + 1 := by
  have h : (rsMsgs e s st l).length ≤ l.length := by unfold rsMsgs; rw [List.length_map]; exact List.length_filter_le _ _
  unfold resendP
  repeat' split
  all_goals simp
  all_goals omega
theorem releasable_f (e s st ap : Int) (l : List Int) (hl : l.length ≤ 100000) (k : Nat) (hk : 2 * l.length + 3 ≤ k) : commit_Releasable.f k e s l st ap = some (if ckS e s l st ap = 0 then ap else 0) := by
  unfold commit_Releasable.f
  rw [check_f e s st ap l (by omega) k (by omega), Option.bind_some]
  split <;> rfl
/-- What Learn comes to. -/
def learnP (e s : Int) (l : List Int) (st ap kd si n me : Int) : Int × Int × List Int × Int × Int × List S53 :=
  if ckS e s l st ap = 0 ∧ si = s ∧ e ≤ me ∧ me ≤ 1073741824 ∧ (kd = 9 ∨ kd = 11 ∨ kd = 12) then
    (if e < me then (me, s, [], ap, ap, [])
     else if kd = 9 ∧ n ∈ l ∧ st ≤ n then (e, s, l, n, ap, [⟨10, 0, s, n, 0, e, (), ()⟩])
     else if kd = 11 ∧ n ∈ l then (e, s, l.filter (fun x => decide (n < x)), (if st < n then n else st), n, [])
     else (e, s, l, st, ap, []))
  else (e, s, l, st, ap, [])
theorem learn_f (e s st ap kd si x2 x3 n me : Int) (l : List Int) (u v : Unit) (hl : l.length ≤ 100000) (k : Nat) (hk : 2 * l.length + 3 ≤ k) : commit_Learn.f k e s l st ap kd si x2 x3 n me u v = some (learnP e s l st ap kd si n me) := by
  unfold commit_Learn.f learnP
  rw [if_pos hl, check_f e s st ap l (by omega) k (by omega), Option.bind_some, time_f, contains_f l n (by omega) k (by omega), index_f l n (by omega) k (by omega)]
  simp only [Option.bind_some, decide_eq_true_eq]
  by_cases hP : ckS e s l st ap = 0 ∧ si = s ∧ e ≤ me ∧ me ≤ 1073741824 ∧ (kd = 9 ∨ kd = 11 ∨ kd = 12)
  · obtain ⟨h, h1, h2, h3, hkd⟩ := id hP
    have h' := ck0 h
    have ht : 0 ≤ me ∧ me ≤ 1073741824 := ⟨by omega, h3⟩
    have h2' : ¬ me < e := by omega
    rw [if_pos h, if_pos h1, if_neg h2', if_pos ht, if_pos hP]
    by_cases h4 : e < me
    · rw [if_pos h4]
      rcases hkd with rfl | rfl | rfl <;> simp [h4]
    · rw [if_neg h4]
      rcases hkd with rfl | rfl | rfl
      · by_cases h5 : n ∈ l <;> by_cases h6 : st ≤ n <;> simp [h4, h5, h6]
      · by_cases h5 : n ∈ l
        · have hi : l.idxOf n < l.length := List.idxOf_lt_length_iff.2 h5
          have hi' : (l.idxOf n : Int) < l.length := by omega
          have hn : (0 : Int) ≤ (l.idxOf n : Int) := by omega
          have e1 : ((l.idxOf n : Int) + 1).toNat = l.idxOf n + 1 := by omega
          rw [rises_filter l ap n h'.2.2.2.2.1 h5]
          simp [h4, h5, hi', hn, e1]
        · simp [h4, h5]
      · simp [h4]
  · rw [if_neg hP]
    by_cases h : ckS e s l st ap = 0
    · have h' := ck0 h
      rw [if_pos h]
      by_cases h1 : si = s
      · rw [if_pos h1]
        by_cases h2 : me < e
        · rw [if_pos h2]
        rw [if_neg h2]
        by_cases h3 : 0 ≤ me ∧ me ≤ 1073741824
        · rw [if_pos h3]
          have k9 : ¬ kd = 9 := fun z => hP ⟨h, h1, by omega, by omega, .inl z⟩
          have k11 : ¬ kd = 11 := fun z => hP ⟨h, h1, by omega, by omega, .inr (.inl z)⟩
          have k12 : ¬ kd = 12 := fun z => hP ⟨h, h1, by omega, by omega, .inr (.inr z)⟩
          rw [if_neg k9, if_neg k11, if_neg k12]
        · rw [if_neg h3]
      · rw [if_neg h1]
    · rw [if_neg h]
theorem learnP_len (e s st ap kd si n me : Int) (l : List Int) : (learnP e s l st ap kd si n me).2.2.1.length ≤ l.length ∧ (learnP e s l st ap kd si n me).2.2.2.2.2.length ≤ 1 := by
  have h := List.length_filter_le (fun x => decide (n < x)) l
  unfold learnP
  repeat' split
  all_goals simp
  all_goals omega
def storeP (e s st ap cy : Int) : Int × Int × Int × Int × List S53 × Int :=
  if ckT e s st ap = 0 then (if cy ≤ st then (0, 0, 0, 0, [], 8) else if cy > 1073741824 then (0, 0, 0, 0, [], 2) else (e, s, cy, ap, [⟨9, s, 0, 0, cy, e, (), ()⟩], 0)) else (0, 0, 0, 0, [], ckT e s st ap)
def applyP (e s st ap cy : Int) : Int × Int × Int × Int × List S53 × Int :=
  if ckT e s st ap = 0 then (if cy ≤ ap then (0, 0, 0, 0, [], 8) else if cy > st then (0, 0, 0, 0, [], 15) else (e, s, st, cy, [⟨11, s, 0, 0, cy, e, (), ()⟩], 0)) else (0, 0, 0, 0, [], ckT e s st ap)
theorem store_f (e s st ap cy : Int) (k : Nat) (hk : 1 ≤ k) : commit_Store.f k e s st ap cy = some (storeP e s st ap cy) := by
  unfold commit_Store.f storeP
  rw [checkT_f e s st ap k hk, Option.bind_some]
  repeat' split
  all_goals rfl
theorem apply_f (e s st ap cy : Int) (k : Nat) (hk : 1 ≤ k) : commit_Apply.f k e s st ap cy = some (applyP e s st ap cy) := by
  unfold commit_Apply.f applyP
  rw [checkT_f e s st ap k hk, Option.bind_some]
  repeat' split
  all_goals rfl
/-- What Answer comes to. -/
def answerP (e s st ap kd si me : Int) : Int × Int × Int × Int × List S53 :=
  if ckT e s st ap = 0 ∧ si = s ∧ (0 ≤ me ∧ me ≤ 1073741824) ∧ (kd = 8 ∨ kd = 10) then
    (if me < e then (e, s, st, ap, [⟨12, s, 0, 0, 0, e, (), ()⟩])
     else if e < me then (me, s, ap, ap, [⟨if kd = 8 then 9 else 11, s, 0, 0, ap, me, (), ()⟩])
     else (e, s, st, ap, [⟨if kd = 8 then 9 else 11, s, 0, 0, if kd = 8 then st else ap, e, (), ()⟩]))
  else (e, s, st, ap, [])
theorem answer_f (e s st ap kd x1 si x3 x4 me : Int) (u v : Unit) (k : Nat) (hk : 1 ≤ k) : commit_Answer.f k e s st ap kd x1 si x3 x4 me u v = some (answerP e s st ap kd si me) := by
  unfold commit_Answer.f answerP
  rw [checkT_f e s st ap k hk, Option.bind_some, time_f]
  simp only [Option.bind_some, decide_eq_true_eq]
  by_cases hP : ckT e s st ap = 0 ∧ si = s ∧ (0 ≤ me ∧ me ≤ 1073741824) ∧ (kd = 8 ∨ kd = 10)
  · obtain ⟨h, h1, h2, hk8⟩ := id hP
    rw [if_pos h, if_pos h1, if_pos h2, if_pos hP]
    rcases hk8 with rfl | rfl
    · rw [if_pos rfl]
      repeat' split
      all_goals first | rfl | omega
    · rw [if_neg (by decide), if_pos rfl]
      repeat' split
      all_goals first | rfl | omega
  · rw [if_neg hP]
    by_cases h : ckT e s st ap = 0
    · rw [if_pos h]
      by_cases h1 : si = s
      · rw [if_pos h1]
        by_cases h2 : 0 ≤ me ∧ me ≤ 1073741824
        · rw [if_pos h2, if_neg (fun z => hP ⟨h, h1, h2, .inl z⟩), if_neg (fun z => hP ⟨h, h1, h2, .inr z⟩)]
        · rw [if_neg h2]
      · rw [if_neg h1]
    · rw [if_neg h]
theorem answerP_len (e s st ap kd si me : Int) : (answerP e s st ap kd si me).2.2.2.2.length ≤ 1 := by
  unfold answerP
  repeat' split
  all_goals simp
end Go.Proofs.Ytedoloapddmanaa.PB
