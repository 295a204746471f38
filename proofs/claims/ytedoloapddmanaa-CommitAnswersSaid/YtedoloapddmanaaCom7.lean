/- Plain laws of commit: Answer. -/
import Derived.Test.YtedoloapddmanaaPBx11
import Derived.Test.YtedoloapddmanaaPBx14
import Derived.Test.YtedoloapddmanaaPBx23
import Derived.Test.YtedoloapddmanaaPBx25
import Derived.Test.YtedoloapddmanaaPBx26
import Derived.Test.YtedoloapddmanaaCom1
import Derived.Test.YtedoloapddmanaaCom3
import Derived.Test.YtedoloapddmanaaCom6
namespace Go.Proofs.Ytedoloapddmanaa.PB
open Go.RowKit Go.Proofs.YtedoloapddmanaaW.PrintWords Go.Proofs.YtedoloapddmanaaW.PrintLast Go.Proofs.YtedoloapddmanaaW.PrintMore
set_option linter.unusedVariables false
set_option linter.unusedSimpArgs false
def answerP (e s st ap kd si me : Int) : Int × Int × Int × Int × List S53 :=
  if ckT e s st ap = 0 ∧ si = s ∧ (0 ≤ me ∧ me ≤ 1073741824) ∧ (kd = 8 ∨ kd = 10) then
    (if me < e then (e, s, st, ap, [⟨12, s, 0, 0, 0, e, (), ()⟩])
     else if e < me then (me, s, ap, ap, [⟨if kd = 8 then 9 else 11, s, 0, 0, ap, me, (), ()⟩])
     else (e, s, st, ap, [⟨if kd = 8 then 9 else 11, s, 0, 0, if kd = 8 then st else ap, e, (), ()⟩]))
  else (e, s, st, ap, [])
theorem answer_f (e s st ap kd x1 si x3 x4 me : Int) (u v : Unit) (k : Nat) (hk : 1 ≤ k) : commit_Answer.f k e s st ap kd x1 si x3 x4 me u v = some (answerP e s st ap kd si me) := by
  unfold commit_Answer.f answerP
  rw [checkT_f e s st ap k hk, Option.bind_some, time_f]
  simp only [Option.bind_some, decide_eq_true_eq]
  by_cases hP : ckT e s st ap = 0 ∧ si = s ∧ (0 ≤ me ∧ me ≤ 1073741824) ∧ (kd = 8 ∨ kd = 10)
  · obtain ⟨h, h1, h2, hk8⟩ := id hP
    rw [if_pos h, if_pos h1, if_pos h2, if_pos hP]
    rcases hk8 with rfl | rfl
    · rw [if_pos rfl]
      repeat' split
      all_goals first | rfl | omega
    · rw [if_neg (by decide), if_pos rfl]
      repeat' split
      all_goals first | rfl | omega
  · rw [if_neg hP]
    by_cases h : ckT e s st ap = 0
    · rw [if_pos h]
      by_cases h1 : si = s
      · rw [if_pos h1]
        by_cases h2 : 0 ≤ me ∧ me ≤ 1073741824
        · rw [if_pos h2, if_neg (fun z => hP ⟨h, h1, h2, .inl z⟩), if_neg (fun z => hP ⟨h, h1, h2, .inr z⟩)]
        · rw [if_neg h2]
      · rw [if_neg h1]
    · rw [if_neg h]
theorem ranswer_j1 (e s st ap kd x1 si x3 x4 me : Int) (k : Nat) : standbyref32_Answer.j1 (k + 1) e s st ap kd x1 si x3 x4 me = some (if kd = 8 then (e, s, st, ap, [⟨9, s, 0, 0, st, e, (), ()⟩]) else (e, s, st, ap, [⟨11, s, 0, 0, ap, e, (), ()⟩])) := by
  rw [standbyref32_Answer.j1]
  simp only [standbyref32_toSource.f, Option.bind_some]
  split <;> rfl
theorem ranswer_f (e s st ap kd x1 si x3 x4 me : Int) (u v : Unit) (k : Nat) (hk : 3 ≤ k) : standbyref32_Answer.f k e s st ap kd x1 si x3 x4 me u v = some (answerP e s st ap kd si me) := by
  obtain ⟨k, rfl⟩ : ∃ m, k = m + 2 := ⟨k - 2, by omega⟩
  unfold standbyref32_Answer.f answerP
  rw [rcheckT_f e s st ap _ (by omega), Option.bind_some, rtime_f]
  simp only [Option.bind_some]
  have j0t : standbyref32_Answer.j0 (k + 2) true e s st ap kd x1 si x3 x4 me = some (e, s, st, ap, []) := by rw [standbyref32_Answer.j0, if_pos (rfl : true = true)]
  have j0f : standbyref32_Answer.j0 (k + 2) false e s st ap kd x1 si x3 x4 me = some (if me < e then (e, s, st, ap, [⟨12, s, 0, 0, 0, e, (), ()⟩]) else if me > e then (if kd = 8 then (me, s, ap, ap, [⟨9, s, 0, 0, ap, me, (), ()⟩]) else (me, s, ap, ap, [⟨11, s, 0, 0, ap, me, (), ()⟩])) else (if kd = 8 then (e, s, st, ap, [⟨9, s, 0, 0, st, e, (), ()⟩]) else (e, s, st, ap, [⟨11, s, 0, 0, ap, e, (), ()⟩]))) := by
    rw [standbyref32_Answer.j0, if_neg Bool.false_ne_true, ranswer_j1, ranswer_j1]
    simp only [standbyref32_toSource.f, Option.bind_some]
    repeat' split
    all_goals rfl
  by_cases h : ckT e s st ap = 0
  · rw [if_pos h]
    by_cases h1 : si = s
    · rw [if_pos h1]
      have hb : ∀ b : Bool, (if kd = 8 then standbyref32_Answer.j0 (k + 2) b e s st ap kd x1 si x3 x4 me else if kd = 10 then standbyref32_Answer.j0 (k + 2) b e s st ap kd x1 si x3 x4 me else standbyref32_Answer.j0 (k + 2) true e s st ap kd x1 si x3 x4 me) = if kd = 8 ∨ kd = 10 then standbyref32_Answer.j0 (k + 2) b e s st ap kd x1 si x3 x4 me else standbyref32_Answer.j0 (k + 2) true e s st ap kd x1 si x3 x4 me := by
        intro b
        repeat' split
        all_goals first | rfl | omega
      rw [hb]
      by_cases hk8 : kd = 8 ∨ kd = 10
      · rw [if_pos hk8]
        by_cases h2 : 0 ≤ me ∧ me ≤ 1073741824
        · rw [decide_eq_true h2, if_pos ⟨h, h1, h2, hk8⟩, Bool.not_true, j0f]
          rcases hk8 with rfl | rfl
          all_goals repeat' split
          all_goals first | rfl | omega
        · rw [decide_eq_false h2, if_neg (by rintro ⟨-, -, z, -⟩; exact h2 z), Bool.not_false, j0t]
      · rw [if_neg hk8, if_neg (by rintro ⟨-, -, -, z⟩; exact hk8 z), j0t]
    · rw [if_neg h1, if_neg (by rintro ⟨-, z, -⟩; exact h1 z), j0t]
  · rw [if_neg h, if_neg (by rintro ⟨z, -⟩; exact h z), j0t]
theorem answerP_len (e s st ap kd si me : Int) : (answerP e s st ap kd si me).2.2.2.2.length ≤ 1 := by
  unfold answerP
  repeat' split
  all_goals simp
end Go.Proofs.Ytedoloapddmanaa.PB
