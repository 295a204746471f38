/- Plain laws of commit: Learn. -/
import Derived.Test.YtedoloapddmanaaPBx10
import Derived.Test.YtedoloapddmanaaPBx13
import Derived.Test.YtedoloapddmanaaPBx16
import Derived.Test.YtedoloapddmanaaPBx21
import Derived.Test.YtedoloapddmanaaCom1
import Derived.Test.YtedoloapddmanaaCom3
namespace Go.Proofs.Ytedoloapddmanaa.PB
open Go.RowKit Go.Proofs.YtedoloapddmanaaW.PrintWords Go.Proofs.YtedoloapddmanaaW.PrintLast Go.Proofs.YtedoloapddmanaaW.PrintMore
set_option linter.unusedVariables false
set_option linter.unusedSimpArgs false

theorem copyL_f (e s st ap : Int) (l : List Int) (hl : l.length ≤ 1000000) : standbyref32_Copy.f e s l st ap = some (e, s, l, st, ap) := by
  unfold standbyref32_Copy.f
  rw [if_pos (by simp; omega)]
  rfl
/-! ### Learn -/
/-- What Learn comes to. -/
def learnP (e s : Int) (l : List Int) (st ap kd si n me : Int) : Int × Int × List Int × Int × Int × List S53 :=
  if ckS e s l st ap = 0 ∧ si = s ∧ e ≤ me ∧ me ≤ 1073741824 ∧ (kd = 9 ∨ kd = 11 ∨ kd = 12) then
    (if e < me then (me, s, [], ap, ap, [])
     else if kd = 9 ∧ n ∈ l ∧ st ≤ n then (e, s, l, n, ap, [⟨10, 0, s, n, 0, e, (), ()⟩])
     else if kd = 11 ∧ n ∈ l then (e, s, l.filter (fun x => decide (n < x)), (if st < n then n else st), n, [])
     else (e, s, l, st, ap, []))
  else (e, s, l, st, ap, [])
theorem learn_f (e s st ap kd si x2 x3 n me : Int) (l : List Int) (u v : Unit) (hl : l.length ≤ 100000) (k : Nat) (hk : 2 * l.length + 3 ≤ k) : commit_Learn.f k e s l st ap kd si x2 x3 n me u v = some (learnP e s l st ap kd si n me) := by
  unfold commit_Learn.f learnP
  rw [if_pos hl, check_f e s st ap l (by omega) k (by omega), Option.bind_some, time_f, contains_f l n (by omega) k (by omega), index_f l n (by omega) k (by omega)]
  simp only [Option.bind_some, decide_eq_true_eq]
  by_cases hP : ckS e s l st ap = 0 ∧ si = s ∧ e ≤ me ∧ me ≤ 1073741824 ∧ (kd = 9 ∨ kd = 11 ∨ kd = 12)
  · obtain ⟨h, h1, h2, h3, hkd⟩ := id hP
    have h' := ck0 h
    have ht : 0 ≤ me ∧ me ≤ 1073741824 := ⟨by omega, h3⟩
    have h2' : ¬ me < e := by omega
    rw [if_pos h, if_pos h1, if_neg h2', if_pos ht, if_pos hP]
    by_cases h4 : e < me
    · rw [if_pos h4]
      rcases hkd with rfl | rfl | rfl <;> simp [h4]
    · rw [if_neg h4]
      rcases hkd with rfl | rfl | rfl
      · by_cases h5 : n ∈ l <;> by_cases h6 : st ≤ n <;> simp [h4, h5, h6]
      · by_cases h5 : n ∈ l
        · have hi : l.idxOf n < l.length := List.idxOf_lt_length_iff.2 h5
          have hi' : (l.idxOf n : Int) < l.length := by omega
          have hn : (0 : Int) ≤ (l.idxOf n : Int) := by omega
          have e1 : ((l.idxOf n : Int) + 1).toNat = l.idxOf n + 1 := by omega
          rw [rises_filter l ap n h'.2.2.2.2.1 h5]
          simp [h4, h5, hi', hn, e1]
        · simp [h4, h5]
      · simp [h4]
  · rw [if_neg hP]
    by_cases h : ckS e s l st ap = 0
    · have h' := ck0 h
      rw [if_pos h]
      by_cases h1 : si = s
      · rw [if_pos h1]
        by_cases h2 : me < e
        · rw [if_pos h2]
        rw [if_neg h2]
        by_cases h3 : 0 ≤ me ∧ me ≤ 1073741824
        · rw [if_pos h3]
          have k9 : ¬ kd = 9 := fun z => hP ⟨h, h1, by omega, by omega, .inl z⟩
          have k11 : ¬ kd = 11 := fun z => hP ⟨h, h1, by omega, by omega, .inr (.inl z)⟩
          have k12 : ¬ kd = 12 := fun z => hP ⟨h, h1, by omega, by omega, .inr (.inr z)⟩
          rw [if_neg k9, if_neg k11, if_neg k12]
        · rw [if_neg h3]
      · rw [if_neg h1]
    · rw [if_neg h]
theorem rlearn_l0 (e s st ap x0 x1 x2 x3 x4 x5 c0 c1 c3 c4 : Int) (l : List Int) (hl : l.length ≤ 100000) : ∀ (d i : Nat), i + d = l.length → ∀ k (acc : List Int), d + 1 ≤ k → acc.length + d ≤ 200000 →
    standbyref32_Learn.l0 k (i : Int) e s l st ap x0 x1 x2 x3 x4 x5 c0 c1 acc c3 c4 = some (c0, c1, acc ++ (l.drop i).filter (fun x => decide (x4 < x)), c3, c4, [])
  | 0, i, h, k, acc, hk, ha => by
    obtain ⟨k, rfl⟩ : ∃ m, k = m + 1 := ⟨k - 1, by omega⟩
    unfold standbyref32_Learn.l0
    rw [if_neg (by omega), List.drop_of_length_le (by omega)]
    simp
  | d + 1, i, h, k, acc, hk, ha => by
    obtain ⟨k, rfl⟩ : ∃ m, k = m + 1 := ⟨k - 1, by omega⟩
    unfold standbyref32_Learn.l0
    rw [if_pos (by omega), if_pos (by omega), drop_rd l i (by omega), w64 (by omega), show ((i : Int) + 1) = ((i + 1 : Nat) : Int) by omega]
    by_cases hx : rd l (i : Int) > x4
    · rw [if_pos hx, if_pos (by omega), rlearn_l0 e s st ap x0 x1 x2 x3 x4 x5 c0 c1 c3 c4 l hl d (i + 1) (by omega) k _ (by omega) (by simp; omega), List.filter_cons, if_pos (by simpa using hx)]
      simp
    · rw [if_neg hx, rlearn_l0 e s st ap x0 x1 x2 x3 x4 x5 c0 c1 c3 c4 l hl d (i + 1) (by omega) k _ (by omega) (by omega), List.filter_cons, if_neg (by simpa using hx)]
theorem rlearn_f (e s st ap kd si x2 x3 n me : Int) (l : List Int) (u v : Unit) (hl : l.length ≤ 100000) (k : Nat) (hk : 2 * l.length + 20 ≤ k) : standbyref32_Learn.f k e s l st ap kd si x2 x3 n me u v = some (learnP e s l st ap kd si n me) := by
  obtain ⟨k, rfl⟩ : ∃ m, k = m + 4 := ⟨k - 4, by omega⟩
  unfold standbyref32_Learn.f learnP
  rw [rcheck_f e s st ap l (by omega) (k + 4) (by omega), Option.bind_some]
  have j0t : standbyref32_Learn.j0 (k + 4) true e s l st ap kd si x2 x3 n me = some (e, s, l, st, ap, []) := by rw [standbyref32_Learn.j0, if_pos (rfl : true = true)]
  have j1t : standbyref32_Learn.j1 (k + 3) true e s l st ap kd si x2 x3 n me = some (e, s, l, st, ap, []) := by rw [standbyref32_Learn.j1, if_pos (rfl : true = true)]
  by_cases h : ckS e s l st ap = 0
  · have h' := ck0 h
    rw [if_pos h]
    by_cases h1 : si = s
    · rw [if_pos h1]
      by_cases h2 : me < e
      · rw [if_pos h2, if_neg (by omega), j0t]
      rw [if_neg h2]
      by_cases h3 : me > 1073741824
      · rw [decide_eq_true h3, j0t, if_neg (by omega)]
      rw [decide_eq_false h3]
      rw [standbyref32_Learn.j0, if_neg Bool.false_ne_true]
      by_cases hkd : kd = 9 ∨ kd = 11 ∨ kd = 12
      · have hC : ckS e s l st ap = 0 ∧ si = s ∧ e ≤ me ∧ me ≤ 1073741824 ∧ (kd = 9 ∨ kd = 11 ∨ kd = 12) := ⟨h, h1, by omega, by omega, hkd⟩
        have hj : (if kd = 9 then standbyref32_Learn.j1 (k + 3) false e s l st ap kd si x2 x3 n me else if kd = 11 then standbyref32_Learn.j1 (k + 3) false e s l st ap kd si x2 x3 n me else standbyref32_Learn.j1 (k + 3) (kd != 12) e s l st ap kd si x2 x3 n me) = standbyref32_Learn.j1 (k + 3) false e s l st ap kd si x2 x3 n me := by
          rcases hkd with rfl | rfl | rfl <;> rfl
        rw [hj, if_pos hC]
        rw [standbyref32_Learn.j1, if_neg Bool.false_ne_true, copyL_f e s st ap l (by omega), Option.bind_some]
        by_cases h4 : me > e
        · rw [if_pos h4, if_pos h4]
        rw [if_neg h4, if_neg h4, rhas_f l n (by omega) (k + 2) (by omega), Option.bind_some]
        have j3 : ∀ b, standbyref32_Learn.j3 (k + 1) b e s l st ap kd si x2 x3 n me e s l st ap = some (if b = true then (e, s, l.filter (fun x => decide (n < x)), (if st < n then n else st), n, []) else (e, s, l, st, ap, [])) := by
          intro b
          rw [standbyref32_Learn.j3]
          cases b with
          | true =>
            rw [if_pos rfl, if_pos rfl]
            have hh := rlearn_l0 e s st ap kd si x2 x3 n me e s (mx st n) n l hl l.length 0 (by omega) k [] (by omega) (by simp; omega)
            rw [List.drop_zero] at hh
            refine hh.trans ?_
            have : mx st n = (if st < n then n else st) := by unfold mx; repeat' split <;> omega
            rw [this, List.nil_append]
          | false => rw [if_neg Bool.false_ne_true, if_neg Bool.false_ne_true]
        have j2 : standbyref32_Learn.j2 (k + 2) false e s l st ap kd si x2 x3 n me e s l st ap = some (if kd = 11 ∧ n ∈ l then (e, s, l.filter (fun x => decide (n < x)), (if st < n then n else st), n, []) else (e, s, l, st, ap, [])) := by
          rw [standbyref32_Learn.j2, if_neg Bool.false_ne_true, rhas_f l n (by omega) (k + 1) (by omega)]
          simp only [Option.bind_some, j3]
          by_cases k11 : kd = 11
          · rw [if_pos k11]
            by_cases h5 : n ∈ l
            · have hC2 : kd = 11 ∧ n ∈ l := ⟨k11, h5⟩
              rw [if_pos (decide_eq_true h5), if_pos hC2]
            · rw [if_neg (by simpa using h5), if_neg (by rintro ⟨-, z⟩; exact h5 z)]
          · rw [if_neg k11, if_neg Bool.false_ne_true, if_neg (by rintro ⟨z, -⟩; exact k11 z)]
        have j2t : standbyref32_Learn.j2 (k + 2) true e s l st ap kd si x2 x3 n me e s l st ap = some (e, s, l, n, ap, [⟨10, 0, s, n, 0, e, (), ()⟩]) := by
          rw [standbyref32_Learn.j2, if_pos (rfl : true = true)]
          rfl
        by_cases k9 : kd = 9
        · rw [if_pos k9]
          by_cases h5 : n ∈ l
          · rw [if_pos (decide_eq_true h5)]
            by_cases h6 : st ≤ n
            · rw [decide_eq_true h6, if_pos (show kd = 9 ∧ n ∈ l ∧ st ≤ n from ⟨k9, h5, h6⟩)]
              exact j2t
            · rw [decide_eq_false h6, if_neg (by rintro ⟨-, -, z⟩; exact h6 z)]
              exact j2
          · rw [if_neg (by simpa using h5), if_neg (by rintro ⟨-, z, -⟩; exact h5 z)]
            exact j2
        · rw [if_neg k9, if_neg (by rintro ⟨z, -⟩; exact k9 z)]
          exact j2
      · have hC : ¬ (ckS e s l st ap = 0 ∧ si = s ∧ e ≤ me ∧ me ≤ 1073741824 ∧ (kd = 9 ∨ kd = 11 ∨ kd = 12)) := fun z => hkd z.2.2.2.2
        have k9 : ¬ kd = 9 := fun z => hkd (.inl z)
        have k11 : ¬ kd = 11 := fun z => hkd (.inr (.inl z))
        have k12 : (kd != 12) = true := by simpa using fun z => hkd (.inr (.inr z))
        rw [if_neg hC, if_neg k9, if_neg k11, k12, j1t]
    · rw [if_neg h1, if_neg (by rintro ⟨-, z, -⟩; exact h1 z), j0t]
  · rw [if_neg h, if_neg (by rintro ⟨z, -⟩; exact h z), j0t]
theorem learnP_len (e s st ap kd si n me : Int) (l : List Int) : (learnP e s l st ap kd si n me).2.2.1.length ≤ l.length ∧ (learnP e s l st ap kd si n me).2.2.2.2.2.length ≤ 1 := by
  have h := List.length_filter_le (fun x => decide (n < x)) l
  unfold learnP
  repeat' split
  all_goals simp
  all_goals omega
end Go.Proofs.Ytedoloapddmanaa.PB
