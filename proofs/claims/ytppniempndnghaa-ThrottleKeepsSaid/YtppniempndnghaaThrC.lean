/- Plain laws (of the program's side alone) of the printed throttle functions: what Check, New, Same, Write and Progress tell. -/
import Derived.Test.YtppniempndnghaaPAx0
import Derived.Test.YtppniempndnghaaPAx2
import Derived.Test.YtppniempndnghaaPAx3
import Derived.Test.YtppniempndnghaaPAx4
import Derived.Test.YtppniempndnghaaPAx5
import Derived.Test.YtppniempndnghaaPAx10
import Derived.Test.YtppniempndnghaaPAx13
-- parts A
namespace Go.Proofs.Ytppniempndnghaa.PA
open Go.RowKit Go.Proofs.YtppniempndnghaaW.PrintWords Go.Proofs.YtppniempndnghaaW.PrintLast Go.Proofs.YtppniempndnghaaW.PrintMore
set_option linter.unusedVariables false
set_option linter.unusedSimpArgs false

theorem i64_range {x : Int} (h : (Lit.int .i64 x).wf = true) : -9223372036854775808 ≤ x ∧ x ≤ 9223372036854775807 := by
  simpa [Lit.wf, show IntKind.i64.min = -9223372036854775808 from rfl, show IntKind.i64.max = 9223372036854775807 from rfl] using h
theorem w64 {x : Int} (h : -9223372036854775808 ≤ x ∧ x ≤ 9223372036854775807) : wrap64 x = x := by unfold wrap64; omega
theorem rd_nat (l : List S71) (n : Nat) : rd_T71 l (n : Int) = l.getD n z71 := by simp [rd_T71]
theorem drop_rd {l : List S71} {n : Nat} (h : n < l.length) : l.drop n = l.getD n z71 :: l.drop (n + 1) := by
  rw [List.drop_eq_getElem_cons h, List.getD_eq_getElem?_getD, List.getElem?_eq_getElem h]; rfl
def tot (l : List S71) : Int := if l.length = 0 then 0 else (l.getD (l.length - 1) z71).f1
theorem rd_last {l : List S71} (h : 0 < l.length) : rd_T71 l ((l.length : Int) - 1) = l.getD (l.length - 1) z71 := by
  rw [show (l.length : Int) - 1 = ((l.length - 1 : Nat) : Int) by omega, rd_nat]
theorem total_f (a0 a1 a2 a3 : Int) (l : List S71) (hl : l.length ≤ 9223372036854775807) : throttle_state_total.f a0 a1 a2 a3 l = some (tot l) := by
  unfold throttle_state_total.f tot
  by_cases h : l.length = 0
  · rw [if_neg (by omega), if_pos h]
  · rw [if_pos (by omega), if_neg h, w64 (by omega), if_pos (by omega), if_pos (by omega), rd_last (by omega)]
theorem between_f (a b c : Int) : throttle_between.f a b c = some (decide (b ≤ a ∧ a ≤ c)) := by
  by_cases h : b ≤ a ∧ a ≤ c
  · rw [between_true h, decide_eq_true h]
  · rw [between_false h, decide_eq_false h]

/-- Marks ascend from the time p and the total q. -/
def srt (t : Int) : Int → Int → List S71 → Bool
  | _, _, [] => true
  | p, q, m :: r => decide (p < m.f0 ∧ m.f0 ≤ t ∧ q < m.f1 ∧ m.f1 ≤ 1073741824) && srt t m.f0 m.f1 r
def chk (o r t b : Int) (l : List S71) : Int :=
  if ¬ (1 ≤ o ∧ o ≤ 1073741824 ∧ 1 ≤ r ∧ r ≤ 4096 ∧ 0 ≤ t ∧ t ≤ 1073741824) then 2
  else if 4096 < l.length then 6
  else if srt t (-1) 0 l = false then 3
  else if ¬ (0 ≤ b ∧ b ≤ tot l) then 2
  else if 1 < l.length ∧ (l.getD 0 z71).f1 ≤ tot l - b then 3 else 0

theorem srt_tot {t : Int} : ∀ {l : List S71} {p q : Int}, srt t p q l = true → 0 ≤ q → q ≤ 1073741824 → (l.length = 0 ∨ q < tot l) ∧ 0 ≤ tot l ∧ tot l ≤ 1073741824
  | [], p, q, _, h0, h1 => by simp [tot]
  | [m], p, q, h, h0, h1 => by
    simp [srt] at h
    simp [tot]; omega
  | m :: m' :: r, p, q, h, h0, h1 => by
    simp only [srt, Bool.and_eq_true, decide_eq_true_eq] at h
    obtain ⟨h2, h3⟩ := h
    have hs : srt t m.f0 m.f1 (m' :: r) = true := by simp only [srt, Bool.and_eq_true, decide_eq_true_eq]; exact h3
    obtain ⟨h4, h5, h6⟩ := srt_tot hs (by omega) (by omega)
    have ht : tot (m :: m' :: r) = tot (m' :: r) := by simp [tot]
    rw [ht]
    refine ⟨.inr ?_, h5, h6⟩
    rcases h4 with h4 | h4
    · simp at h4
    · omega
theorem tot_bound {l : List S71} (hw : ∀ x ∈ l, -9223372036854775808 ≤ x.f1 ∧ x.f1 ≤ 9223372036854775807) : -9223372036854775808 ≤ tot l ∧ tot l ≤ 9223372036854775807 := by
  unfold tot
  split
  · omega
  · rename_i h
    have hl : l.length - 1 < l.length := by omega
    rw [List.getD_eq_getElem?_getD, List.getElem?_eq_getElem hl]
    exact hw _ (List.getElem_mem hl)

theorem idxFrom_ge {α : Type} (p : α → Bool) : ∀ (l : List α) (n : Nat), idxFrom p l n = -1 ∨ (n : Int) ≤ idxFrom p l n
  | [], _ => .inl rfl
  | x :: r, n => by
    unfold idxFrom
    split
    · exact .inr (Int.le_refl _)
    · rcases idxFrom_ge p r (n + 1) with h | h
      · exact .inl h
      · exact .inr (by omega)
theorem open_pos (a0 a1 a2 a3 c : Int) (l : List S71) (hl : 0 < l.length) : ∃ o, throttle_state_open.f a0 a1 a2 a3 l c = some o ∧ (o > 0 ↔ (l.getD 0 z71).f1 ≤ c) := by
  obtain ⟨x, r, rfl⟩ : ∃ x r, l = x :: r := by
    match l, hl with
    | x :: r, _ => exact ⟨x, r, rfl⟩
  unfold throttle_state_open.f
  refine ⟨_, rfl, ?_⟩
  by_cases h : x.f1 > c
  · simp [idxFrom, h] <;> omega
  · have h1 : idxFrom (fun x : S71 => decide (x.f1 > c)) (x :: r) 0 = idxFrom (fun x : S71 => decide (x.f1 > c)) r 1 := by
      simp [idxFrom, h]
    rw [h1]
    have h3 := idxFrom_ge (fun x : S71 => decide (x.f1 > c)) r 1
    generalize idxFrom (fun x : S71 => decide (x.f1 > c)) r 1 = ii at h3
    have h4 : ((x :: r).getD 0 z71).f1 = x.f1 := rfl
    rw [h4]
    have h5 : ((x :: r).length : Int) = r.length + 1 := by simp
    rw [h5]
    rcases h3 with h2 | h2
    · rw [if_neg (by omega)]
      constructor <;> intro <;> omega
    · rw [if_pos (by omega)]
      constructor <;> intro <;> omega

theorem check_l0 (o r t b : Int) (l : List S71) (hl : l.length ≤ 4096) (ht : t ≤ 1073741824) (E : Option Int)
    (hE : E = (throttle_state_total.f o r t b l).bind fun t126 => ((throttle_between.f b 0 t126).bind fun t127 => (if t127 = true then (if (l.length : Int) > 1 then ((throttle_state_confirmed.f o r t b l).bind fun t128 => ((throttle_state_open.f o r t b l t128).bind fun t129 => (if t129 > 0 then (some 3) else (some 0)))) else (some 0)) else (some 2)))) :
    ∀ (d n k : Nat) (p q : Int), n + d = l.length → d < k → -1 ≤ p → p ≤ 1073741824 → 0 ≤ q → q ≤ 1073741824 →
      throttle_Check.l0 k l (l.length : Int) (n : Int) o r t b l o r t b l p q = if srt t p q (l.drop n) = true then E else some 3 := by
  intro d
  induction d with
  | zero =>
    intro n k p q hn hk hp hp' hq hq'
    obtain ⟨k, rfl⟩ : ∃ m, k = m + 1 := ⟨k - 1, by omega⟩
    simp only [throttle_Check.l0]
    rw [if_neg (by omega), List.drop_eq_nil_of_le (by omega)]
    simp only [srt, if_true]
    exact hE.symm
  | succ d ih =>
    intro n k p q hn hk hp hp' hq hq'
    obtain ⟨k, rfl⟩ : ∃ m, k = m + 1 := ⟨k - 1, by omega⟩
    simp only [throttle_Check.l0]
    rw [if_pos (by omega), if_pos (by omega), if_pos (by omega), drop_rd (show n < l.length by omega), rd_nat, w64 (by omega), between_f]
    simp only [Option.bind_some, decide_eq_true_eq]
    generalize hm : l.getD n z71 = m
    by_cases h1 : p + 1 ≤ m.f0 ∧ m.f0 ≤ t
    · rw [if_pos h1, w64 (by omega), between_f]
      simp only [Option.bind_some, decide_eq_true_eq]
      by_cases h2 : q + 1 ≤ m.f1 ∧ m.f1 ≤ 1073741824
      · rw [if_pos h2, w64 (by omega), show ((n : Int) + 1) = ((n + 1 : Nat) : Int) by omega, ih (n + 1) k m.f0 m.f1 (by omega) (by omega) (by omega) (by omega) (by omega) (by omega)]
        simp only [srt, decide_eq_true (show p < m.f0 ∧ m.f0 ≤ t ∧ q < m.f1 ∧ m.f1 ≤ 1073741824 by omega), Bool.true_and]
      · rw [if_neg h2]
        simp only [srt, decide_eq_false (show ¬ (p < m.f0 ∧ m.f0 ≤ t ∧ q < m.f1 ∧ m.f1 ≤ 1073741824) by omega), Bool.false_and, Bool.false_eq_true, if_false]
    · rw [if_neg h1]
      simp only [srt, decide_eq_false (show ¬ (p < m.f0 ∧ m.f0 ≤ t ∧ q < m.f1 ∧ m.f1 ≤ 1073741824) by omega), Bool.false_and, Bool.false_eq_true, if_false]

theorem new_f (o r : Int) : throttle_New.f o r = if 1 ≤ o ∧ o ≤ 1073741824 ∧ 1 ≤ r ∧ r ≤ 4096 then some (o, r, 0, 0, [], 0) else some (0, 0, 0, 0, [], 2) := by
  unfold throttle_New.f
  rw [between_f]
  simp only [Option.bind_some, decide_eq_true_eq]
  by_cases h1 : 1 ≤ o ∧ o ≤ 1073741824
  · rw [if_pos h1, between_f]
    simp only [Option.bind_some, decide_eq_true_eq]
    by_cases h2 : 1 ≤ r ∧ r ≤ 4096
    · rw [if_pos h2, if_pos (by omega)]
    · rw [if_neg h2, if_neg (by omega)]
  · rw [if_neg h1, if_neg (by omega)]
theorem check_f (o r t b : Int) (l : List S71) (hl : l.length ≤ 9223372036854775807) (hb : -9223372036854775808 ≤ b ∧ b ≤ 9223372036854775807) (k : Nat) (hk : l.length + 2 ≤ k) : throttle_Check.f k o r t b l = some (chk o r t b l) := by
  obtain ⟨k, rfl⟩ : ∃ m, k = m + 1 := ⟨k - 1, by omega⟩
  unfold throttle_Check.f chk
  rw [new_f]
  by_cases h1 : 1 ≤ o ∧ o ≤ 1073741824 ∧ 1 ≤ r ∧ r ≤ 4096
  · rw [if_pos h1, between_f]
    simp only [Option.bind_some, if_true]
    by_cases h2 : 0 ≤ t ∧ t ≤ 1073741824
    · rw [decide_eq_true h2, if_neg (not_not_intro (show 1 ≤ o ∧ o ≤ 1073741824 ∧ 1 ≤ r ∧ r ≤ 4096 ∧ 0 ≤ t ∧ t ≤ 1073741824 by omega))]
      simp only [throttle_Check.j0, Bool.not_true, Bool.false_eq_true, if_false]
      by_cases h3 : 4096 < l.length
      · rw [if_pos (by omega), if_pos h3]
      · rw [if_neg (by omega), if_neg h3]
        have := check_l0 o r t b l (by omega) (by omega) _ rfl l.length 0 k (-1) 0 (by omega) (by omega) (by omega) (by omega) (by omega) (by omega)
        simp only [List.drop_zero, Int.natCast_zero] at this
        rw [this]
        cases hs : srt t (-1) 0 l with
        | false => simp
        | true =>
          obtain ⟨-, h5, h6⟩ := srt_tot hs (by omega) (by omega)
          simp only [if_true, Bool.true_eq_false, if_false]
          rw [total_f _ _ _ _ _ hl]
          simp only [Option.bind_some]
          rw [between_f]
          simp only [Option.bind_some, decide_eq_true_eq]
          by_cases h7 : 0 ≤ b ∧ b ≤ tot l
          · rw [if_pos h7, if_neg (not_not_intro h7)]
            by_cases h8 : 1 < l.length
            · rw [if_pos (by omega)]
              unfold throttle_state_confirmed.f
              rw [total_f _ _ _ _ _ hl]
              simp only [Option.bind_some]
              rw [w64 (by omega)]
              obtain ⟨oo, ho, hi⟩ := open_pos o r t b (tot l - b) l (by omega)
              rw [ho]
              simp only [Option.bind_some]
              by_cases h9 : (l.getD 0 z71).f1 ≤ tot l - b
              · rw [if_pos (hi.2 h9), if_pos ⟨h8, h9⟩]
              · rw [if_neg (fun h => h9 (hi.1 h)), if_neg (fun h => h9 h.2)]
            · rw [if_neg (by omega), if_neg (fun h => h8 h.1)]
          · rw [if_neg h7, if_pos h7]
    · rw [decide_eq_false h2, if_pos (show ¬ (1 ≤ o ∧ o ≤ 1073741824 ∧ 1 ≤ r ∧ r ≤ 4096 ∧ 0 ≤ t ∧ t ≤ 1073741824) by omega)]
      simp [throttle_Check.j0]
  · rw [if_neg h1, if_pos (show ¬ (1 ≤ o ∧ o ≤ 1073741824 ∧ 1 ≤ r ∧ r ≤ 4096 ∧ 0 ≤ t ∧ t ≤ 1073741824) by omega)]
    simp [throttle_Check.j0]

theorem srt_ge {t : Int} : ∀ {l : List S71} {p q : Int}, srt t p q l = true → ∀ i, i < l.length → q < (l.getD i z71).f1 ∧ p < (l.getD i z71).f0 ∧ (l.getD i z71).f0 ≤ t ∧ (l.getD i z71).f1 ≤ 1073741824
  | [], p, q, _, i, hi => by simp at hi
  | m :: r, p, q, h, i, hi => by
    simp only [srt, Bool.and_eq_true, decide_eq_true_eq] at h
    obtain ⟨h1, h2⟩ := h
    cases i with
    | zero => show q < m.f1 ∧ p < m.f0 ∧ m.f0 ≤ t ∧ m.f1 ≤ 1073741824; omega
    | succ i =>
      have := srt_ge h2 i (by simpa using hi)
      show q < (r.getD i z71).f1 ∧ p < (r.getD i z71).f0 ∧ (r.getD i z71).f0 ≤ t ∧ (r.getD i z71).f1 ≤ 1073741824
      omega
theorem srt_first {t p q : Int} {l : List S71} (h : srt t p q l = true) (i : Nat) (hi : i < l.length) : (l.getD 0 z71).f1 ≤ (l.getD i z71).f1 := by
  match l, h, hi with
  | m :: r, h, hi =>
    simp only [srt, Bool.and_eq_true, decide_eq_true_eq] at h
    cases i with
    | zero => exact Int.le_refl _
    | succ i =>
      have := srt_ge h.2 i (by simpa using hi)
      show m.f1 ≤ (r.getD i z71).f1
      omega

theorem rounds_up {α : Type} {g : Nat → Option α} (h : ∀ k, LeO (g k) (g (k + 1))) {k k' : Nat} (hk : k ≤ k') {r : α} (hr : g k = some r) : g k' = some r := by
  induction hk with
  | refl => exact hr
  | step _ ih => exact h _ _ ih
theorem awake_f (k : Nat) (hk : 100 ≤ k) : standbylaw33_awake.f k = some true :=
  rounds_up (fun k => standbylaw33_awake.mono k) hk (by kernel_rfl)
end Go.Proofs.Ytppniempndnghaa.PA
