/- Plain laws of commit: what the checks, the searches and the comparisons come to. -/
import Derived.Test.YtedoloapddmanaaPBx2
import Derived.Test.YtedoloapddmanaaPBx3
import Derived.Test.YtedoloapddmanaaPBx11
import Derived.Test.YtedoloapddmanaaPBx12
import Derived.Test.YtedoloapddmanaaPBx13
import Derived.Test.YtedoloapddmanaaPBx14
namespace Go.Proofs.Ytedoloapddmanaa.PB
open Go.RowKit Go.Proofs.YtedoloapddmanaaW.PrintWords Go.Proofs.YtedoloapddmanaaW.PrintLast Go.Proofs.YtedoloapddmanaaW.PrintMore
set_option linter.unusedVariables false
set_option linter.unusedSimpArgs false
theorem w64 {x : Int} (h : -9223372036854775808 ≤ x ∧ x ≤ 9223372036854775807) : wrap64 x = x := by unfold wrap64; omega
theorem drop_rd (l : List Int) (i : Nat) (h : i < l.length) : l.drop i = rd l (i : Int) :: l.drop (i + 1) := by
  rw [List.drop_eq_getElem_cons h]
  congr 1
  unfold rd
  rw [Int.toNat_natCast, List.getD_eq_getElem?_getD, List.getElem?_eq_getElem h]
  rfl
theorem more {α : Type} {g : Nat → Option α} (hm : ∀ k, LeO (g k) (g (k + 1))) {r : α} {k0 : Nat} (h : g k0 = some r) : ∀ k, k0 ≤ k → g k = some r := by
  intro k hk
  obtain ⟨d, rfl⟩ : ∃ d, k = k0 + d := ⟨k - k0, by omega⟩
  clear hk
  induction d with
  | zero => exact h
  | succ d ih => exact hm _ _ ih
theorem index_l0 (l : List Int) (x : Int) (hl : l.length ≤ 1000000) : ∀ (d i : Nat), i + d = l.length → ∀ k, d + 1 ≤ k →
    slices_Index_int_int.l0 k l x (l.length : Int) (i : Int) = some (if x ∈ l.drop i then ((i + (l.drop i).idxOf x : Nat) : Int) else -1)
  | 0, i, h, k, hk => by
    obtain ⟨k, rfl⟩ : ∃ m, k = m + 1 := ⟨k - 1, by omega⟩
    unfold slices_Index_int_int.l0
    rw [if_neg (by omega), List.drop_of_length_le (by omega)]
    simp
  | d + 1, i, h, k, hk => by
    obtain ⟨k, rfl⟩ : ∃ m, k = m + 1 := ⟨k - 1, by omega⟩
    unfold slices_Index_int_int.l0
    rw [if_pos (by omega), if_pos (by omega), if_pos (by omega), drop_rd l i (by omega)]
    by_cases hx : x = rd l (i : Int)
    · rw [if_pos hx, ← hx]
      simp
    · rw [if_neg hx, w64 (by omega)]
      have ih := index_l0 l x hl d (i + 1) (by omega) k (by omega)
      rw [show ((i : Int) + 1) = ((i + 1 : Nat) : Int) by omega, ih]
      by_cases hm : x ∈ l.drop (i + 1)
      · rw [if_pos hm, if_pos (List.mem_cons_of_mem _ hm), List.idxOf_cons, show (rd l (i : Int) == x) = false by simpa using fun h => hx (Eq.symm h), cond_false]
        congr 2
        omega
      · rw [if_neg hm, if_neg (by simp [hx, hm])]
theorem index_f (l : List Int) (x : Int) (hl : l.length ≤ 1000000) (k : Nat) (hk : l.length + 1 ≤ k) : slices_Index_int_int.f k l x = some (if x ∈ l then (l.idxOf x : Int) else -1) := by
  unfold slices_Index_int_int.f
  have h := index_l0 l x hl l.length 0 (by omega) k (by omega)
  simpa using h
theorem contains_f (l : List Int) (x : Int) (hl : l.length ≤ 1000000) (k : Nat) (hk : l.length + 1 ≤ k) : slices_Contains_int_int.f k l x = some (decide (x ∈ l)) := by
  unfold slices_Contains_int_int.f
  rw [index_f l x hl k hk]
  by_cases h : x ∈ l
  · rw [if_pos h]; simp [h]
  · rw [if_neg h]; simp [h]
theorem time_f (a : Int) : commit_time.f a = some (decide (0 ≤ a ∧ a ≤ 1073741824)) := by
  unfold commit_time.f
  by_cases h : a ≥ 0
  · rw [if_pos h]; congr 1; rw [decide_eq_decide]; omega
  · rw [if_neg h]; congr 1; symm; rw [decide_eq_false_iff_not]; omega
theorem site_f (a : Int) : commit_site.f a = some (decide (0 ≤ a ∧ a < 4)) := by
  unfold commit_site.f
  by_cases h : a ≥ 0
  · rw [if_pos h]; congr 1; rw [decide_eq_decide]; omega
  · rw [if_neg h]; congr 1; symm; rw [decide_eq_false_iff_not]; omega
def rightB (a b c : Int) : Bool := decide (0 ≤ a ∧ a ≤ 1073741824) && (decide (0 ≤ b ∧ b < 4) && decide (0 ≤ c ∧ c ≤ 1073741824))
theorem right_f (a b c : Int) : commit_right.f a b c = some (rightB a b c) := by
  unfold commit_right.f rightB
  rw [time_f, time_f, site_f]
  simp only [Option.bind_some]
  cases decide (0 ≤ a ∧ a ≤ 1073741824) <;> cases decide (0 ≤ b ∧ b < 4) <;> simp
def risesB : Int → List Int → Bool
  | _, [] => true
  | a, n :: r => if n ≤ a then false else if n > 1073741824 then false else risesB n r
def ckS (e s : Int) (l : List Int) (st ap : Int) : Int :=
  if rightB e s ap = true then (if (l.length : Int) > 1024 then 6 else if risesB ap l = true then (if st = ap then 0 else if st ∈ l then 0 else 12) else 3) else 2
theorem check_l0 (e s st ap : Int) (l : List Int) (hl : l.length ≤ 1000000) : ∀ (d i : Nat), i + d = l.length → ∀ k a, l.length + d + 2 ≤ k →
    commit_CheckSource.l0 k a l (l.length : Int) (i : Int) e s l st ap = some (if risesB a (l.drop i) = true then (if st = ap then 0 else if st ∈ l then 0 else 12) else 3)
  | 0, i, h, k, a, hk => by
    obtain ⟨k, rfl⟩ : ∃ m, k = m + 1 := ⟨k - 1, by omega⟩
    unfold commit_CheckSource.l0
    rw [if_neg (by omega), List.drop_of_length_le (by omega), show risesB a [] = true from rfl, if_pos (rfl : true = true)]
    by_cases h1 : st = ap
    · rw [if_pos h1, if_pos h1]
    · rw [if_neg h1, if_neg h1, contains_f l st hl k (by omega)]
      simp only [Option.bind_some]
      by_cases h2 : st ∈ l
      · rw [if_pos (decide_eq_true h2), if_pos h2]
      · rw [if_neg (by simp [h2]), if_neg h2]
  | d + 1, i, h, k, a, hk => by
    obtain ⟨k, rfl⟩ : ∃ m, k = m + 1 := ⟨k - 1, by omega⟩
    unfold commit_CheckSource.l0
    rw [if_pos (by omega), if_pos (by omega), if_pos (by omega), drop_rd l i (by omega)]
    unfold risesB
    by_cases h1 : rd l (i : Int) ≤ a
    · rw [if_pos h1, if_pos h1, if_neg (by decide)]
    · rw [if_neg h1, if_neg h1]
      by_cases h2 : rd l (i : Int) > 1073741824
      · rw [if_pos h2, if_pos h2, if_neg (by decide)]
      · rw [if_neg h2, if_neg h2, w64 (by omega)]
        have ih := check_l0 e s st ap l hl d (i + 1) (by omega) k (rd l (i : Int)) (by omega)
        rw [show ((i : Int) + 1) = ((i + 1 : Nat) : Int) by omega]
        exact ih
theorem check_f (e s st ap : Int) (l : List Int) (hl : l.length ≤ 1000000) (k : Nat) (hk : 2 * l.length + 2 ≤ k) : commit_CheckSource.f k e s l st ap = some (ckS e s l st ap) := by
  unfold commit_CheckSource.f ckS
  rw [right_f]
  simp only [Option.bind_some]
  cases rightB e s ap with
  | false => rfl
  | true =>
    rw [if_pos rfl, if_pos rfl]
    by_cases h : (l.length : Int) > 1024
    · rw [if_pos h, if_pos h]
    · rw [if_neg h, if_neg h]
      have h := check_l0 e s st ap l hl l.length 0 (by omega) k ap (by omega)
      simpa using h
def ckT (e s st ap : Int) : Int := if (decide (0 ≤ e ∧ e ≤ 1073741824) && decide (0 ≤ s ∧ s < 4)) = true then (if ap < 0 then 3 else if st < ap then 3 else if st > 1073741824 then 3 else 0) else 2
theorem checkT_f (e s st ap : Int) (k : Nat) (hk : 1 ≤ k) : commit_CheckTarget.f k e s st ap = some (ckT e s st ap) := by
  obtain ⟨k, rfl⟩ : ∃ m, k = m + 1 := ⟨k - 1, by omega⟩
  unfold commit_CheckTarget.f ckT
  rw [time_f, site_f]
  simp only [Option.bind_some]
  cases decide (0 ≤ e ∧ e ≤ 1073741824) <;> cases decide (0 ≤ s ∧ s < 4) <;> simp [commit_CheckTarget.j0]
  all_goals (repeat' split) <;> first | rfl | omega
theorem newS_f (e s ap : Int) : commit_NewSource.f e s ap = some (if rightB e s ap = true then (e, s, [], ap, ap, 0) else (0, 0, [], 0, 0, 2)) := by
  unfold commit_NewSource.f
  rw [right_f]
  simp only [Option.bind_some]
  split <;> rfl
theorem newT_f (e s ap : Int) : commit_NewTarget.f e s ap = some (if rightB e s ap = true then (e, s, ap, ap, 0) else (0, 0, 0, 0, 2)) := by
  unfold commit_NewTarget.f
  rw [right_f]
  simp only [Option.bind_some]
  split <;> rfl
theorem same_l0 (e s st ap : Int) (l : List Int) (hl : l.length ≤ 1000000) : ∀ (d i : Nat), i + d = l.length → ∀ k, d + 1 ≤ k → standbyref32_Same.l0 k (i : Int) e s l st ap e s l st ap = some true
  | 0, i, h, k, hk => by
    obtain ⟨k, rfl⟩ : ∃ m, k = m + 1 := ⟨k - 1, by omega⟩
    unfold standbyref32_Same.l0
    rw [if_neg (by omega)]
  | d + 1, i, h, k, hk => by
    obtain ⟨k, rfl⟩ : ∃ m, k = m + 1 := ⟨k - 1, by omega⟩
    unfold standbyref32_Same.l0
    rw [if_pos (by omega), if_pos (by omega), if_pos (by omega), if_pos rfl, w64 (by omega), show ((i : Int) + 1) = ((i + 1 : Nat) : Int) by omega]
    exact same_l0 e s st ap l hl d (i + 1) (by omega) k (by omega)
theorem same_f (e s st ap : Int) (l : List Int) (hl : l.length ≤ 1000000) (k : Nat) (hk : l.length + 2 ≤ k) : standbyref32_Same.f k e s l st ap e s l st ap = some true := by
  obtain ⟨k, rfl⟩ : ∃ m, k = m + 1 := ⟨k - 1, by omega⟩
  unfold standbyref32_Same.f
  rw [if_pos rfl, if_pos rfl, if_pos rfl, if_pos rfl]
  simp only [standbyref32_Same.j0]
  rw [if_neg (by simp)]
  exact same_l0 e s st ap l hl l.length 0 (by omega) k (by omega)
theorem rtime_f (a : Int) : standbyref32_time.f a = some (decide (0 ≤ a ∧ a ≤ 1073741824)) := by
  unfold standbyref32_time.f
  by_cases h : a ≥ 0
  · rw [if_pos h]; congr 1; rw [decide_eq_decide]; omega
  · rw [if_neg h]; congr 1; symm; rw [decide_eq_false_iff_not]; omega
theorem rsite_f (a : Int) : standbyref32_site.f a = some (decide (0 ≤ a ∧ a < 4)) := by
  unfold standbyref32_site.f
  by_cases h : a ≥ 0
  · rw [if_pos h]; congr 1; rw [decide_eq_decide]; omega
  · rw [if_neg h]; congr 1; symm; rw [decide_eq_false_iff_not]; omega
theorem rnewS_f (e s ap : Int) : standbyref32_NewSource.f e s ap = some (if rightB e s ap = true then (e, s, [], ap, ap, 0) else (0, 0, [], 0, 0, 2)) := by
  unfold standbyref32_NewSource.f rightB
  rw [rtime_f, rtime_f, rsite_f]
  simp only [Option.bind_some]
  cases decide (0 ≤ e ∧ e ≤ 1073741824) <;> cases decide (0 ≤ s ∧ s < 4) <;> cases decide (0 ≤ ap ∧ ap ≤ 1073741824) <;> rfl
theorem rnewT_f (e s ap : Int) : standbyref32_NewTarget.f e s ap = some (if rightB e s ap = true then (e, s, ap, ap, 0) else (0, 0, 0, 0, 2)) := by
  unfold standbyref32_NewTarget.f rightB
  rw [rtime_f, rtime_f, rsite_f]
  simp only [Option.bind_some]
  cases decide (0 ≤ e ∧ e ≤ 1073741824) <;> cases decide (0 ≤ s ∧ s < 4) <;> cases decide (0 ≤ ap ∧ ap ≤ 1073741824) <;> rfl
theorem rhas_l0 (l : List Int) (x : Int) (hl : l.length ≤ 1000000) : ∀ (d i : Nat), i + d = l.length → ∀ k, d + 1 ≤ k → standbyref32_has.l0 k l x (i : Int) = some (decide (x ∈ l.drop i))
  | 0, i, h, k, hk => by
    obtain ⟨k, rfl⟩ : ∃ m, k = m + 1 := ⟨k - 1, by omega⟩
    unfold standbyref32_has.l0
    rw [if_neg (by omega), List.drop_of_length_le (by omega)]
    simp
  | d + 1, i, h, k, hk => by
    obtain ⟨k, rfl⟩ : ∃ m, k = m + 1 := ⟨k - 1, by omega⟩
    unfold standbyref32_has.l0
    rw [if_pos (by omega), if_pos (by omega), drop_rd l i (by omega)]
    by_cases hx : rd l (i : Int) = x
    · rw [if_pos hx, hx]; simp
    · rw [if_neg hx, w64 (by omega), show ((i : Int) + 1) = ((i + 1 : Nat) : Int) by omega, rhas_l0 l x hl d (i + 1) (by omega) k (by omega)]
      congr 1
      rw [decide_eq_decide, List.mem_cons]
      exact ⟨Or.inr, fun h => h.resolve_left (fun e => hx e.symm)⟩
theorem rhas_f (l : List Int) (x : Int) (hl : l.length ≤ 1000000) (k : Nat) (hk : l.length + 1 ≤ k) : standbyref32_has.f k l x = some (decide (x ∈ l)) := by
  have h := rhas_l0 l x hl l.length 0 (by omega) k (by omega)
  unfold standbyref32_has.f
  simpa using h
theorem rcheck_l0 (e s st ap : Int) (l : List Int) (hl : l.length ≤ 1000000) : ∀ (d i : Nat), i + d = l.length → ∀ k a, l.length + d + 2 ≤ k →
    standbyref32_CheckSource.l0 k a (i : Int) e s l st ap = some (if risesB a (l.drop i) = true then (if st = ap then 0 else if st ∈ l then 0 else 12) else 3)
  | 0, i, h, k, a, hk => by
    obtain ⟨k, rfl⟩ : ∃ m, k = m + 1 := ⟨k - 1, by omega⟩
    unfold standbyref32_CheckSource.l0
    rw [if_neg (by omega), List.drop_of_length_le (by omega), show risesB a [] = true from rfl, if_pos (rfl : true = true)]
    by_cases h1 : st = ap
    · rw [if_pos h1, if_pos h1]
    · rw [if_neg h1, if_neg h1, rhas_f l st hl k (by omega)]
      simp only [Option.bind_some]
      by_cases h2 : st ∈ l
      · rw [if_pos (decide_eq_true h2), if_pos h2]
      · rw [if_neg (by simp [h2]), if_neg h2]
  | d + 1, i, h, k, a, hk => by
    obtain ⟨k, rfl⟩ : ∃ m, k = m + 1 := ⟨k - 1, by omega⟩
    unfold standbyref32_CheckSource.l0
    rw [if_pos (by omega), if_pos (by omega), drop_rd l i (by omega)]
    unfold risesB
    by_cases h1 : rd l (i : Int) ≤ a
    · rw [if_pos h1, if_pos h1, if_neg (by decide)]
    · rw [if_neg h1, if_neg h1]
      by_cases h2 : rd l (i : Int) > 1073741824
      · rw [if_pos h2, if_pos h2, if_neg (by decide)]
      · rw [if_neg h2, if_neg h2, w64 (by omega), show ((i : Int) + 1) = ((i + 1 : Nat) : Int) by omega]
        exact rcheck_l0 e s st ap l hl d (i + 1) (by omega) k (rd l (i : Int)) (by omega)
theorem rcheck_f (e s st ap : Int) (l : List Int) (hl : l.length ≤ 1000000) (k : Nat) (hk : 2 * l.length + 3 ≤ k) : standbyref32_CheckSource.f k e s l st ap = some (ckS e s l st ap) := by
  obtain ⟨k, rfl⟩ : ∃ m, k = m + 1 := ⟨k - 1, by omega⟩
  unfold standbyref32_CheckSource.f ckS rightB
  rw [rtime_f, rtime_f, rsite_f]
  have h := rcheck_l0 e s st ap l hl l.length 0 (by omega) k ap (by omega)
  rw [List.drop_zero] at h
  simp only [Option.bind_some]
  cases decide (0 ≤ e ∧ e ≤ 1073741824) <;> cases decide (0 ≤ s ∧ s < 4) <;> cases decide (0 ≤ ap ∧ ap ≤ 1073741824) <;> simp only [standbyref32_CheckSource.j0, Bool.true_and, Bool.false_and, Bool.and_false, Bool.and_true, Bool.not_true, Bool.not_false, if_true, if_false, Bool.false_eq_true]
  by_cases hh : (l.length : Int) > 1024
  · rw [if_pos hh, if_pos hh]
  · rw [if_neg hh, if_neg hh]; exact h
theorem rcheckT_f (e s st ap : Int) (k : Nat) (hk : 1 ≤ k) : standbyref32_CheckTarget.f k e s st ap = some (ckT e s st ap) := by
  obtain ⟨k, rfl⟩ : ∃ m, k = m + 1 := ⟨k - 1, by omega⟩
  unfold standbyref32_CheckTarget.f ckT
  rw [rtime_f, rsite_f]
  simp only [Option.bind_some]
  cases decide (0 ≤ e ∧ e ≤ 1073741824) <;> cases decide (0 ≤ s ∧ s < 4) <;> simp [standbyref32_CheckTarget.j0]
  all_goals (repeat' split) <;> first | rfl | omega
end Go.Proofs.Ytedoloapddmanaa.PB
