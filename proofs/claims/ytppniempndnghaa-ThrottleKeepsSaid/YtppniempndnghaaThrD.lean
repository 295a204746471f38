/- Plain laws (of the program's side alone) of the printed Write: what it tells, as the reference tells it. -/
-- parts A
import Derived.Test.YtppniempndnghaaPAx0
import Derived.Test.YtppniempndnghaaPAx3
import Derived.Test.YtppniempndnghaaPAx4
import Derived.Test.YtppniempndnghaaPAx10
import Derived.Test.YtppniempndnghaaThrC
namespace Go.Proofs.Ytppniempndnghaa.PA
open Go.RowKit Go.Proofs.YtppniempndnghaaW.PrintWords Go.Proofs.YtppniempndnghaaW.PrintLast Go.Proofs.YtppniempndnghaaW.PrintMore
set_option linter.unusedVariables false
set_option linter.unusedSimpArgs false

theorem chk_ok {o r t b : Int} {l : List S71} (h : chk o r t b l = 0) :
    1 ≤ o ∧ o ≤ 1073741824 ∧ 1 ≤ r ∧ r ≤ 4096 ∧ 0 ≤ t ∧ t ≤ 1073741824 ∧ l.length ≤ 4096 ∧ srt t (-1) 0 l = true ∧ 0 ≤ b ∧ b ≤ tot l ∧ (1 < l.length → tot l - b < (l.getD 0 z71).f1) ∧ 0 ≤ tot l ∧ tot l ≤ 1073741824 := by
  unfold chk at h
  by_cases h1 : 1 ≤ o ∧ o ≤ 1073741824 ∧ 1 ≤ r ∧ r ≤ 4096 ∧ 0 ≤ t ∧ t ≤ 1073741824
  · rw [if_neg (not_not_intro h1)] at h
    by_cases h2 : 4096 < l.length
    · rw [if_pos h2] at h; omega
    · rw [if_neg h2] at h
      cases hs : srt t (-1) 0 l with
      | false => rw [hs] at h; simp at h
      | true =>
        rw [hs] at h
        simp only [Bool.true_eq_false, if_false] at h
        obtain ⟨-, h5, h6⟩ := srt_tot hs (by omega) (by omega)
        by_cases h3 : 0 ≤ b ∧ b ≤ tot l
        · rw [if_neg (not_not_intro h3)] at h
          by_cases h4 : 1 < l.length ∧ (l.getD 0 z71).f1 ≤ tot l - b
          · rw [if_pos h4] at h; omega
          · refine ⟨h1.1, h1.2.1, h1.2.2.1, h1.2.2.2.1, h1.2.2.2.2.1, h1.2.2.2.2.2, by omega, rfl, h3.1, h3.2, fun h7 => ?_, h5, h6⟩
            have : ¬ (l.getD 0 z71).f1 ≤ tot l - b := fun h8 => h4 ⟨h7, h8⟩
            omega
        · rw [if_pos h3] at h; omega
  · rw [if_pos h1] at h; omega

/-- Marks that are not confirmed up to c, and the last one. -/
def tid (c : Int) : List S71 → List S71
  | [] => []
  | [m] => [m]
  | m :: m' :: r => if m.f1 > c then m :: tid c (m' :: r) else tid c (m' :: r)
theorem tid_le (c : Int) : ∀ l : List S71, (tid c l).length ≤ l.length
  | [] => Nat.le_refl _
  | [m] => Nat.le_refl _
  | m :: m' :: r => by
    have := tid_le c (m' :: r)
    unfold tid
    split
    · simp only [List.length_cons] at this ⊢; omega
    · simp only [List.length_cons] at this ⊢; omega
theorem tid_all (c : Int) : ∀ (l : List S71), (∀ i, i < l.length → (l.getD i z71).f1 > c) → tid c l = l
  | [], _ => rfl
  | [m], _ => rfl
  | m :: m' :: r, h => by
    have h0 : m.f1 > c := h 0 (by simp)
    unfold tid
    rw [if_pos h0, tid_all c (m' :: r) (fun i hi => h (i + 1) (by simpa using hi))]
theorem tid_snoc (c : Int) (m : S71) : ∀ l : List S71, tid c (l ++ [m]) = (l.filter fun x => decide (x.f1 > c)) ++ [m]
  | [] => rfl
  | [x] => by
    show tid c [x, m] = _
    simp only [tid, List.filter_cons, List.filter_nil]
    by_cases h : x.f1 > c
    · rw [if_pos h, decide_eq_true h]; rfl
    · rw [if_neg h, decide_eq_false h]; rfl
  | x :: x' :: r => by
    have ih := tid_snoc c m (x' :: r)
    show tid c (x :: x' :: (r ++ [m])) = _
    have ih' : tid c (x' :: (r ++ [m])) = (List.filter (fun x => decide (x.f1 > c)) (x' :: r)) ++ [m] := ih
    simp only [tid]
    rw [List.filter_cons]
    by_cases h : x.f1 > c
    · rw [if_pos h, if_pos (by simpa using h), ih']; rfl
    · rw [if_neg h, if_neg (by simpa using h), ih']

theorem filter_all {l : List S71} {c : Int} (h : ∀ i, i < l.length → (l.getD i z71).f1 > c) : (l.filter fun x => decide (x.f1 > c)) = l := by
  rw [List.filter_eq_self]
  intro x hx
  obtain ⟨i, hi, rfl⟩ := List.mem_iff_getElem.1 hx
  have := h i hi
  rw [List.getD_eq_getElem?_getD, List.getElem?_eq_getElem hi] at this
  exact decide_eq_true this
/-- The first mark that is not confirmed, and what lies behind it. -/
theorem open_drop (a0 a1 a2 a3 c t : Int) : ∀ (l : List S71) (p q : Int), srt t p q l = true → ∃ o : Nat, throttle_state_open.f a0 a1 a2 a3 l c = some (o : Int) ∧ o ≤ l.length ∧ l.drop o = l.filter (fun x => decide (x.f1 > c)) ∧ (∀ i, i < o → ¬ (l.getD i z71).f1 > c) ∧ (o < l.length → (l.getD o z71).f1 > c)
  | [], p, q, _ => ⟨0, rfl, Nat.le_refl _, rfl, fun i hi => absurd hi (Nat.not_lt_zero _), fun h => by simp at h⟩
  | x :: r, p, q, h => by
    have h' := h
    simp only [srt, Bool.and_eq_true, decide_eq_true_eq] at h'
    obtain ⟨h1, h2⟩ := h'
    by_cases hx : x.f1 > c
    · refine ⟨0, ?_, Nat.zero_le _, ?_, fun i hi => absurd hi (Nat.not_lt_zero _), fun _ => hx⟩
      · unfold throttle_state_open.f
        simp [idxFrom, hx]
      · rw [List.drop_zero, filter_all]
        intro i hi
        have := srt_first h i hi
        have h0 : ((x :: r).getD 0 z71).f1 = x.f1 := rfl
        omega
    · obtain ⟨o, ho, hol, hod, hoi, hoo⟩ := open_drop a0 a1 a2 a3 c t r x.f0 x.f1 h2
      refine ⟨o + 1, ?_, by simpa using hol, ?_, fun i hi => ?_, fun hi => ?_⟩
      · unfold throttle_state_open.f at ho ⊢
        have hs : ∀ (r : List S71) (n : Nat), idxFrom (fun x : S71 => decide (x.f1 > c)) r (n + 1) = if idxFrom (fun x : S71 => decide (x.f1 > c)) r n ≥ 0 then idxFrom (fun x : S71 => decide (x.f1 > c)) r n + 1 else -1 := by
          intro r
          induction r with
          | nil => intro n; rfl
          | cons y r ih =>
            intro n
            unfold idxFrom
            split
            · rw [if_pos (by omega)]; omega
            · exact ih (n + 1)
        have h1' : idxFrom (fun x : S71 => decide (x.f1 > c)) (x :: r) 0 = idxFrom (fun x : S71 => decide (x.f1 > c)) r 1 := by
          simp [idxFrom, hx]
        rw [h1', hs r 0]
        have ho' := Option.some.inj ho
        generalize idxFrom (fun x : S71 => decide (x.f1 > c)) r 0 = ii at ho' ⊢
        have hl : ((x :: r).length : Int) = r.length + 1 := by simp
        rw [hl]
        by_cases h3 : ii ≥ 0
        · rw [if_pos h3] at ho' ⊢
          rw [if_pos (by omega)]
          congr 1; omega
        · rw [if_neg h3] at ho' ⊢
          rw [if_neg (by omega)]
          congr 1; omega
      · rw [List.drop_succ_cons, hod, List.filter_cons, if_neg (by simpa using hx)]
      · cases i with
        | zero => exact hx
        | succ i => exact hoi i (by omega)
      · exact hoo (by simpa using hi)

def wr (o r t b : Int) (l : List S71) (now n : Int) : Int × Int × Int × Int × (List S71) × Int × Int :=
  if ¬ chk o r t b l = 0 then (0, 0, 0, 0, [], 0, chk o r t b l)
  else if ¬ (t ≤ now ∧ now ≤ 1073741824) then (0, 0, 0, 0, [], 0, 24)
  else if ¬ (1 ≤ n ∧ n ≤ 4096) then (0, 0, 0, 0, [], 0, 2)
  else if n > r * o then (0, 0, 0, 0, [], 0, 21)
  else if b + n > r * o then (o, r, now, b, l, (b + n + r - 1) / r - o, 0)
  else if tot l + n > 1073741824 then (0, 0, 0, 0, [], 0, 11)
  else if 0 < l.length ∧ (l.getD (l.length - 1) z71).f0 = now then (o, r, now, b + n, l.set (l.length - 1) ⟨now, tot l + n⟩, 0, 0)
  else if ((l.filter fun x => decide (x.f1 > tot l - b)) ++ [(⟨now, tot l + n⟩ : S71)]).length ≤ 4096 then (o, r, now, b + n, (l.filter fun x => decide (x.f1 > tot l - b)) ++ [(⟨now, tot l + n⟩ : S71)], 0, 0)
  else (0, 0, 0, 0, [], 0, 11)

theorem ro_bound {o r : Int} (h1 : 1 ≤ o) (h2 : o ≤ 1073741824) (h3 : 1 ≤ r) (h4 : r ≤ 4096) : 1 ≤ r * o ∧ r * o ≤ 4398046511104 := by
  have a : 1 * 1 ≤ r * o := Int.mul_le_mul h3 h1 (by omega) (by omega)
  have b : r * o ≤ 4096 * 1073741824 := Int.mul_le_mul h4 h2 (by omega) (by omega)
  omega
theorem wait_eq {o r b n : Int} (h1 : 1 ≤ o) (h2 : o ≤ 1073741824) (h3 : 1 ≤ r) (h4 : r ≤ 4096) (hb : 0 ≤ b) (hb2 : b ≤ 1073741824) (hn : 1 ≤ n) (hn2 : n ≤ 4096) (h : b + n > r * o) :
    wrap64 (Int.tdiv (wrap64 (wrap64 (wrap64 (wrap64 (b + n) - wrap64 (r * o)) + r) - 1)) r) = (b + n + r - 1) / r - o ∧ wrap64 (wrap64 (Int.tdiv (wrap64 (wrap64 (wrap64 (b + n) + r) - 1)) r) - o) = (b + n + r - 1) / r - o := by
  obtain ⟨ha, hc⟩ := ro_bound h1 h2 h3 h4
  have e1 : (b + n - r * o + r - 1) / r = (b + n + r - 1) / r - o := by
    have : b + n - r * o + r - 1 = (b + n + r - 1) + r * (-o) := by rw [Int.mul_neg]; omega
    rw [this, Int.add_mul_ediv_left _ _ (by omega)]; omega
  have e2 : 0 ≤ (b + n + r - 1) / r := Int.ediv_nonneg (by omega) (by omega)
  have e3 : (b + n + r - 1) / r ≤ b + n + r - 1 := Int.ediv_le_self _ (by omega)
  have e4 : 0 ≤ (b + n - r * o + r - 1) / r := Int.ediv_nonneg (by omega) (by omega)
  constructor
  · rw [w64 (x := b + n) (by omega), w64 (x := r * o) (by omega), w64 (x := b + n - r * o) (by omega), w64 (x := b + n - r * o + r) (by omega), w64 (x := b + n - r * o + r - 1) (by omega), Int.tdiv_eq_ediv_of_nonneg (by omega), w64 (by omega), e1]
  · rw [w64 (x := b + n) (by omega), w64 (x := b + n + r) (by omega), w64 (x := b + n + r - 1) (by omega), Int.tdiv_eq_ediv_of_nonneg (by omega), w64 (x := (b + n + r - 1) / r) (by omega), w64 (by omega)]

theorem write_f (o r t b : Int) (l : List S71) (now n : Int) (hl : l.length ≤ 9223372036854775807) (hb : -9223372036854775808 ≤ b ∧ b ≤ 9223372036854775807) (k : Nat) (hk : l.length + 2 ≤ k) : throttle_Write.f k o r t b l now n = some (wr o r t b l now n) := by
  unfold throttle_Write.f wr
  rw [check_f o r t b l hl hb k hk]
  simp only [Option.bind_some]
  by_cases h0 : chk o r t b l = 0
  · rw [if_pos h0, if_neg (not_not_intro h0)]
    obtain ⟨c1, c2, c3, c4, c5, c6, c7, c8, c9, c10, c11, c12, c13⟩ := chk_ok h0
    obtain ⟨ro1, ro2⟩ := ro_bound c1 c2 c3 c4
    unfold throttle_Write.g
    rw [if_neg (by omega)]
    by_cases h1 : t ≤ now ∧ now ≤ 1073741824
    · rw [if_neg (not_not_intro h1), if_neg (not_not_intro h1)]
      by_cases h2 : 1 ≤ n ∧ n ≤ 4096
      · rw [if_neg (not_not_intro h2), if_neg (not_not_intro h2), w64 (x := r * o) (by omega)]
        by_cases h3 : n > r * o
        · rw [if_pos h3, if_pos h3]
        · rw [if_neg h3, if_neg h3, w64 (x := b + n) (by omega), w64 (x := b + n - r * o) (by omega)]
          by_cases h4 : b + n > r * o
          · rw [if_pos (by omega), if_pos h4]
            have hw := (wait_eq c1 c2 c3 c4 c9 (by omega) h2.1 h2.2 h4).1
            rw [w64 (x := b + n) (by omega), w64 (x := r * o) (by omega), w64 (x := b + n - r * o) (by omega)] at hw
            rw [hw]
          · rw [if_neg (by omega), if_neg h4, total_f _ _ _ _ _ hl]
            simp only [Option.bind_some]
            rw [w64 (x := tot l + n) (by omega)]
            by_cases h5 : tot l + n > 1073741824
            · rw [if_pos h5, if_pos h5]
            · rw [if_neg h5, if_neg h5]
              by_cases h6 : 0 < l.length ∧ (l.getD (l.length - 1) z71).f0 = now
              · rw [rd_last h6.1, if_pos h6, if_pos h6, h6.2]
              · rw [if_neg (fun h => h6 ⟨h.1, by rw [← rd_last h.1]; exact h.2⟩), if_neg h6]
                unfold throttle_state_confirmed.f
                rw [total_f _ _ _ _ _ hl]
                simp only [Option.bind_some]
                rw [w64 (x := tot l - b) (by omega)]
                obtain ⟨oo, ho, hol, hod, -, -⟩ := open_drop o r now b (tot l - b) t l (-1) 0 c8
                rw [ho]
                simp only [Option.bind_some]
                rw [if_pos (by omega), Int.toNat_natCast, hod]
                split <;> rfl
      · rw [if_pos h2, if_pos h2]
    · rw [if_pos h1, if_pos h1]
  · rw [if_neg h0, if_pos h0]

theorem filter_len {α : Type} (p : α → Bool) (l : List α) : (l.filter p).length ≤ l.length := List.length_filter_le p l
theorem wr_len (o r t b : Int) (l : List S71) (now n : Int) : (wr o r t b l now n).2.2.2.2.1.length ≤ l.length + 1 := by
  have := filter_len (fun x : S71 => decide (x.f1 > tot l - b)) l
  unfold wr
  repeat' split
  all_goals simp
  all_goals omega
end Go.Proofs.Ytppniempndnghaa.PA
