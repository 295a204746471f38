/- Plain laws of the printed Progress and Age, and what stays true under writes and confirmations. -/
-- parts A
import Derived.Test.YtppniempndnghaaPAx0
import Derived.Test.YtppniempndnghaaPAx4
import Derived.Test.YtppniempndnghaaPAx10
import Derived.Test.YtppniempndnghaaPAx11
import Derived.Test.YtppniempndnghaaThrD
namespace Go.Proofs.Ytppniempndnghaa.PA
open Go.RowKit Go.Proofs.YtppniempndnghaaW.PrintWords Go.Proofs.YtppniempndnghaaW.PrintLast Go.Proofs.YtppniempndnghaaW.PrintMore
set_option linter.unusedVariables false
set_option linter.unusedSimpArgs false

def keepFrom (l : List S71) (o : Nat) : List S71 := l.drop (if l.length - 1 < o then l.length - 1 else o)
def pg (o r t b : Int) (l : List S71) (now total : Int) (q : Nat) : Int × Int × Int × Int × (List S71) × Int :=
  if ¬ chk o r t b l = 0 then (0, 0, 0, 0, [], chk o r t b l)
  else if ¬ (t ≤ now ∧ now ≤ 1073741824) then (0, 0, 0, 0, [], 24)
  else if ¬ (tot l - b ≤ total ∧ total ≤ tot l) then (0, 0, 0, 0, [], 2)
  else (o, r, now, tot l - total, keepFrom l q, 0)
/-- Progress tells this; q is the number of marks at the begin that are confirmed. -/
theorem progress_f (o r t b : Int) (l : List S71) (now total : Int) (hl : l.length ≤ 9223372036854775807) (hb : -9223372036854775808 ≤ b ∧ b ≤ 9223372036854775807) :
    ∃ q : Nat, (chk o r t b l = 0 → (∀ i, i < q → ¬ (l.getD i z71).f1 > total) ∧ (q < l.length → (l.getD q z71).f1 > total) ∧ q ≤ l.length) ∧ ∀ k, l.length + 2 ≤ k → throttle_Progress.f k o r t b l now total = some (pg o r t b l now total q) := by
  by_cases h0 : chk o r t b l = 0
  · obtain ⟨c1, c2, c3, c4, c5, c6, c7, c8, c9, c10, c11, c12, c13⟩ := chk_ok h0
    obtain ⟨q, ho, hol, -, hoi, hoo⟩ := open_drop o r now (wrap64 (tot l - total)) total t l (-1) 0 c8
    refine ⟨q, fun _ => ⟨hoi, hoo, hol⟩, fun k hk => ?_⟩
    unfold throttle_Progress.f pg
    rw [check_f o r t b l hl hb k hk]
    simp only [Option.bind_some]
    rw [if_pos h0, if_neg (not_not_intro h0)]
    unfold throttle_Progress.g
    rw [if_neg (by omega)]
    by_cases h1 : t ≤ now ∧ now ≤ 1073741824
    · rw [if_neg (not_not_intro h1), if_neg (not_not_intro h1)]
      unfold throttle_state_confirmed.f
      rw [total_f _ _ _ _ _ hl]
      simp only [Option.bind_some]
      rw [w64 (x := tot l - b) (by omega)]
      by_cases h2 : tot l - b ≤ total ∧ total ≤ tot l
      · rw [if_neg (not_not_intro h2), if_neg (not_not_intro h2), ho]
        simp only [Option.bind_some]
        rw [w64 (x := tot l - total) (by omega)]
        by_cases h3 : l.length = 0
        · rw [if_pos h3]
          have : l = [] := List.eq_nil_of_length_eq_zero h3
          subst this
          simp [keepFrom]
        · rw [if_neg h3, if_pos (by omega)]
          unfold keepFrom
          have e : (if (l.length : Int) - 1 < (q : Int) then (l.length : Int) - 1 else (q : Int)).toNat = if l.length - 1 < q then l.length - 1 else q := by
            by_cases h4 : l.length - 1 < q
            · rw [if_pos h4, if_pos (by omega)]; omega
            · rw [if_neg h4, if_neg (by omega)]; omega
          rw [e]
      · rw [if_pos h2, if_pos h2]
    · rw [if_pos h1, if_pos h1]
  · refine ⟨0, fun h => absurd h h0, fun k hk => ?_⟩
    unfold throttle_Progress.f pg
    rw [check_f o r t b l hl hb k hk]
    simp only [Option.bind_some]
    rw [if_neg h0, if_pos h0]

/-- The time of the first mark (or write) that is not confirmed up to c. -/
def ftM (l : List S71) (c : Int) : Option Int := (l.find? fun x => decide (x.f1 > c)).map S71.f0
def ftW (l : List S49) (c : Int) : Option Int := (l.find? fun x => decide (x.f1 > c)).map S49.f0
theorem ftM_none {l : List S71} {c : Int} (h : ∀ i, i < l.length → ¬ (l.getD i z71).f1 > c) : ftM l c = none := by
  unfold ftM
  rw [List.find?_eq_none.2, Option.map_none]
  intro x hx
  obtain ⟨i, hi, rfl⟩ := List.mem_iff_getElem.1 hx
  have := h i hi
  rw [List.getD_eq_getElem?_getD, List.getElem?_eq_getElem hi] at this
  simpa using this
theorem ftM_drop (c : Int) : ∀ (l : List S71) (n : Nat), (∀ i, i < n → i < l.length → ¬ (l.getD i z71).f1 > c) → ftM (l.drop n) c = ftM l c
  | [], n, _ => by simp
  | x :: r, 0, _ => rfl
  | x :: r, n + 1, h => by
    have h0 : ¬ x.f1 > c := h 0 (by omega) (by simp)
    rw [List.drop_succ_cons, ftM_drop c r n (fun i hi hl => h (i + 1) (by omega) (by simpa using hl))]
    unfold ftM
    rw [List.find?_cons_of_neg (by simpa using h0)]
theorem ftM_filter {c d : Int} (hcd : d ≤ c) : ∀ l : List S71, ftM (l.filter fun x => decide (x.f1 > d)) c = ftM l c
  | [] => rfl
  | x :: r => by
    have ih := ftM_filter hcd r
    unfold ftM at ih ⊢
    by_cases h : x.f1 > d
    · rw [List.filter_cons, if_pos (by simpa using h)]
      by_cases h2 : x.f1 > c
      · rw [List.find?_cons_of_pos (by simpa using h2), List.find?_cons_of_pos (by simpa using h2)]
      · rw [List.find?_cons_of_neg (by simpa using h2), List.find?_cons_of_neg (by simpa using h2), ih]
    · rw [List.filter_cons, if_neg (by simpa using h), List.find?_cons_of_neg (by simp; omega), ih]
theorem ftM_snoc (l : List S71) (m : S71) (c : Int) : ftM (l ++ [m]) c = (ftM l c).or (if m.f1 > c then some m.f0 else none) := by
  unfold ftM
  rw [List.find?_append]
  cases l.find? fun x => decide (x.f1 > c) with
  | some y => simp
  | none =>
    by_cases h : m.f1 > c
    · rw [List.find?_cons_of_pos (by simpa using h), if_pos h]; simp
    · rw [List.find?_cons_of_neg (by simpa using h), if_neg h]; simp
theorem ftW_snoc (l : List S49) (m : S49) (c : Int) : ftW (l ++ [m]) c = (ftW l c).or (if m.f1 > c then some m.f0 else none) := by
  unfold ftW
  rw [List.find?_append]
  cases l.find? fun x => decide (x.f1 > c) with
  | some y => simp
  | none =>
    by_cases h : m.f1 > c
    · rw [List.find?_cons_of_pos (by simpa using h), if_pos h]; simp
    · rw [List.find?_cons_of_neg (by simpa using h), if_neg h]; simp

theorem srt_drop {t : Int} : ∀ {l : List S71} {p q : Int} (n : Nat), srt t p q l = true → -1 ≤ p → 0 ≤ q → srt t (-1) 0 (l.drop n) = true
  | [], p, q, n, _, _, _ => by simp [srt]
  | m :: r, p, q, 0, h, hp, hq => by
    simp only [srt, Bool.and_eq_true, decide_eq_true_eq, List.drop_zero] at h ⊢
    exact ⟨⟨by omega, by omega, by omega, by omega⟩, h.2⟩
  | m :: r, p, q, n + 1, h, hp, hq => by
    simp only [srt, Bool.and_eq_true, decide_eq_true_eq] at h
    rw [List.drop_succ_cons]
    exact srt_drop n h.2 (by omega) (by omega)
theorem srt_later {t t' : Int} (ht : t ≤ t') : ∀ {l : List S71} {p q : Int}, srt t p q l = true → srt t' p q l = true
  | [], p, q, _ => rfl
  | m :: r, p, q, h => by
    simp only [srt, Bool.and_eq_true, decide_eq_true_eq] at h ⊢
    exact ⟨⟨by omega, by omega, by omega, by omega⟩, srt_later ht h.2⟩
theorem tot_snoc (l : List S71) (m : S71) : tot (l ++ [m]) = m.f1 := by
  unfold tot
  rw [if_neg (by simp)]
  simp
theorem srt_snoc {t : Int} {m : S71} : ∀ {l : List S71} {p q : Int}, srt t p q l = true → (∀ i, i < l.length → (l.getD i z71).f0 < m.f0 ∧ (l.getD i z71).f1 < m.f1) → p < m.f0 → q < m.f1 → m.f0 ≤ t → m.f1 ≤ 1073741824 → srt t p q (l ++ [m]) = true
  | [], p, q, _, _, h1, h2, h3, h4 => by
    simp only [List.nil_append, srt, Bool.and_true, decide_eq_true_eq]
    exact ⟨h1, h3, h2, h4⟩
  | x :: r, p, q, h, hi, h1, h2, h3, h4 => by
    simp only [srt, Bool.and_eq_true, decide_eq_true_eq] at h
    rw [List.cons_append]
    simp only [srt, Bool.and_eq_true, decide_eq_true_eq]
    have hx : x.f0 < m.f0 ∧ x.f1 < m.f1 := hi 0 (by simp)
    exact ⟨h.1, srt_snoc h.2 (fun i hl => hi (i + 1) (by simpa using hl)) hx.1 hx.2 h3 h4⟩
theorem chk_zero {o r t b : Int} {l : List S71} (h1 : 1 ≤ o ∧ o ≤ 1073741824) (h2 : 1 ≤ r ∧ r ≤ 4096) (h3 : 0 ≤ t ∧ t ≤ 1073741824) (h4 : l.length ≤ 4096) (h5 : srt t (-1) 0 l = true) (h6 : 0 ≤ b ∧ b ≤ tot l) (h7 : 1 < l.length → tot l - b < (l.getD 0 z71).f1) : chk o r t b l = 0 := by
  unfold chk
  rw [if_neg (not_not_intro ⟨h1.1, h1.2, h2.1, h2.2, h3.1, h3.2⟩), if_neg (by omega), h5]
  simp only [Bool.true_eq_false, if_false]
  rw [if_neg (not_not_intro h6), if_neg (fun h => by have := h7 h.1; omega)]

/-- What stays true: the throttle is in order, and tells the same first write that is not confirmed as the list of all writes. -/
structure InvT (o r t b : Int) (l : List S71) (now total conf : Int) (L : List S49) : Prop where
  ok : chk o r t b l = 0
  time : t ≤ now
  sum : tot l = total
  back : b = total - conf
  first : ∀ c, conf ≤ c → ftM l c = ftW L c

theorem getD_drop (l : List S71) (n i : Nat) : (l.drop n).getD i z71 = l.getD (n + i) z71 := by
  rw [List.getD_eq_getElem?_getD, List.getD_eq_getElem?_getD, List.getElem?_drop]
theorem tot_drop {l : List S71} {n : Nat} (h : n < l.length) : tot (l.drop n) = tot l := by
  unfold tot
  rw [List.length_drop, if_neg (by omega), if_neg (by omega), getD_drop, show n + (l.length - n - 1) = l.length - 1 by omega]

theorem inv_progress {o r t b : Int} {l : List S71} {now total conf : Int} {L : List S49} (h : InvT o r t b l now total conf L) {now' conf' : Int} (hn : now ≤ now') (hn2 : now' ≤ 1073741824) (hc : conf ≤ conf') (hc2 : conf' ≤ total) :
    ∃ l', InvT o r now' (total - conf') l' now' total conf' L ∧ l'.length ≤ l.length ∧ ∀ k, l.length + 2 ≤ k → throttle_Progress.f k o r t b l now' conf' = some (o, r, now', total - conf', l', 0) := by
  obtain ⟨c1, c2, c3, c4, c5, c6, c7, c8, c9, c10, c11, c12, c13⟩ := chk_ok h.ok
  have hs := h.sum; have hb := h.back; have ht := h.time
  obtain ⟨q, hq, hf⟩ := progress_f o r t b l now' conf' (by omega) (by omega)
  obtain ⟨hq1, hq2, hq3⟩ := hq h.ok
  refine ⟨keepFrom l q, ⟨?_, Int.le_refl _, ?_, rfl, fun c hcc => ?_⟩, ?_, fun k hk => ?_⟩
  · unfold keepFrom
    by_cases h0 : l.length = 0
    · have : l = [] := List.eq_nil_of_length_eq_zero h0
      subst this
      have h1 : tot ([] : List S71) = 0 := rfl
      exact chk_zero ⟨c1, c2⟩ ⟨c3, c4⟩ ⟨by omega, hn2⟩ (by simp) (by simp [srt]) (by simp [tot]; omega) (by simp)
    · have hlt : (if l.length - 1 < q then l.length - 1 else q) < l.length := by split <;> omega
      refine chk_zero ⟨c1, c2⟩ ⟨c3, c4⟩ ⟨by omega, hn2⟩ (by rw [List.length_drop]; omega) (srt_later (by omega) (srt_drop _ c8 (by omega) (by omega))) (by rw [tot_drop hlt]; omega) (fun h1 => ?_)
      rw [tot_drop hlt, getD_drop]
      rw [List.length_drop] at h1
      by_cases h2 : l.length - 1 < q
      · rw [if_pos h2] at h1; omega
      · rw [if_neg h2] at h1 ⊢
        have := hq2 (by omega)
        rw [Nat.add_zero]; omega
  · unfold keepFrom
    by_cases h0 : l.length = 0
    · have : l = [] := List.eq_nil_of_length_eq_zero h0
      subst this; simpa using hs
    · rw [tot_drop (by split <;> omega), hs]
  · rw [← h.first c (by omega)]
    unfold keepFrom
    refine ftM_drop c l _ (fun i hi hl => ?_)
    have := hq1 i (by split at hi <;> omega)
    omega
  · unfold keepFrom; rw [List.length_drop]; omega
  · rw [hf k hk]
    unfold pg
    rw [if_neg (not_not_intro h.ok), if_neg (not_not_intro (show t ≤ now' ∧ now' ≤ 1073741824 by omega)), if_neg (not_not_intro (show tot l - b ≤ conf' ∧ conf' ≤ tot l by omega)), hs]

theorem getD_app {l r : List S71} {i : Nat} (h : i < l.length) : (l ++ r).getD i z71 = l.getD i z71 := by
  rw [List.getD_eq_getElem?_getD, List.getD_eq_getElem?_getD, List.getElem?_append_left h]
theorem list_last {l : List S71} (h : 0 < l.length) : ∃ init last, l = init ++ [last] ∧ l.getD (l.length - 1) z71 = last ∧ ∀ m, l.set (l.length - 1) m = init ++ [m] := by
  obtain ⟨init, last, rfl⟩ : ∃ init last, l = init ++ [last] := ⟨l.dropLast, l.getLast (by intro h0; rw [h0] at h; simp at h), (List.dropLast_concat_getLast _).symm⟩
  refine ⟨init, last, rfl, ?_, fun m => ?_⟩
  · simp
  · simp
theorem srt_parts {t : Int} {m : S71} : ∀ {l : List S71} {p q : Int}, srt t p q (l ++ [m]) = true → srt t p q l = true ∧ (∀ i, i < l.length → (l.getD i z71).f0 < m.f0 ∧ (l.getD i z71).f1 < m.f1) ∧ p < m.f0 ∧ q < m.f1 ∧ m.f0 ≤ t ∧ m.f1 ≤ 1073741824
  | [], p, q, h => by
    simp only [List.nil_append, srt, Bool.and_true, decide_eq_true_eq] at h
    exact ⟨rfl, fun i hi => absurd hi (by simp), h.1, h.2.2.1, h.2.1, h.2.2.2⟩
  | x :: r, p, q, h => by
    rw [List.cons_append] at h
    simp only [srt, Bool.and_eq_true, decide_eq_true_eq] at h
    obtain ⟨h1, h2, h3, h4, h5, h6⟩ := srt_parts h.2
    refine ⟨by simp only [srt, Bool.and_eq_true, decide_eq_true_eq]; exact ⟨h.1, h1⟩, fun i hi => ?_, by omega, by omega, h5, h6⟩
    cases i with
    | zero => exact ⟨h3, h4⟩
    | succ i => exact h2 i (by simpa using hi)
theorem srt_all_gt {t : Int} {l : List S71} {p q : Int} (h : srt t p q l = true) : ∀ i, i < l.length → (l.getD i z71).f0 ≤ t ∧ (l.getD i z71).f1 ≤ tot l := by
  induction l generalizing p q with
  | nil => intro i hi; simp at hi
  | cons m r ih =>
    simp only [srt, Bool.and_eq_true, decide_eq_true_eq] at h
    intro i hi
    cases i with
    | zero =>
      refine ⟨h.1.2.1, ?_⟩
      show m.f1 ≤ tot (m :: r)
      cases r with
      | nil => simp [tot]
      | cons y r =>
        have := srt_ge h.2 r.length (by simp)
        have e : tot (m :: y :: r) = ((y :: r).getD r.length z71).f1 := by unfold tot; rw [if_neg (by simp)]; rfl
        omega
    | succ i =>
      have hi' : i < r.length := by simpa using hi
      have := ih h.2 i hi'
      refine ⟨this.1, ?_⟩
      have e : tot (m :: r) = tot r := by
        cases r with
        | nil => simp at hi'
        | cons y r => simp [tot]
      rw [e]; exact this.2

/-- A write that is admitted at once, or has to wait. -/
theorem inv_write {o r t b : Int} {l : List S71} {now total conf : Int} {L : List S49} (h : InvT o r t b l now total conf L) {now' n : Int} (hn : now ≤ now') (hn2 : now' ≤ 1073741824) (hlen : l.length < 4096) (h1 : 1 ≤ n) (h2 : n ≤ 4096) (h3 : n ≤ r * o) (hs2 : total + n ≤ 1073741824) (hc0 : 0 ≤ conf) :
    (total - conf + n ≤ r * o → ∃ l', InvT o r now' (total + n - conf) l' now' (total + n) conf (L ++ [⟨now', total + n⟩]) ∧ l'.length ≤ l.length + 1 ∧ ∀ k, l.length + 2 ≤ k → throttle_Write.f k o r t b l now' n = some (o, r, now', total + n - conf, l', 0, 0)) ∧
    (¬ total - conf + n ≤ r * o → InvT o r now' b l now' total conf L ∧ 0 < (b + n + r - 1) / r - o ∧ ∀ k, l.length + 2 ≤ k → throttle_Write.f k o r t b l now' n = some (o, r, now', b, l, (b + n + r - 1) / r - o, 0)) := by
  obtain ⟨c1, c2, c3, c4, c5, c6, c7, c8, c9, c10, c11, c12, c13⟩ := chk_ok h.ok
  have hs := h.sum; have hb := h.back; have ht := h.time
  have hw : ∀ k, l.length + 2 ≤ k → throttle_Write.f k o r t b l now' n = some (wr o r t b l now' n) := fun k hk => write_f o r t b l now' n (by omega) (by omega) k hk
  have hpre : wr o r t b l now' n = if b + n > r * o then (o, r, now', b, l, (b + n + r - 1) / r - o, 0)
    else if 0 < l.length ∧ (l.getD (l.length - 1) z71).f0 = now' then (o, r, now', b + n, l.set (l.length - 1) ⟨now', tot l + n⟩, 0, 0)
    else (o, r, now', b + n, (l.filter fun x => decide (x.f1 > tot l - b)) ++ [(⟨now', tot l + n⟩ : S71)], 0, 0) := by
    unfold wr
    rw [if_neg (not_not_intro h.ok), if_neg (not_not_intro (show t ≤ now' ∧ now' ≤ 1073741824 by omega)), if_neg (not_not_intro (show 1 ≤ n ∧ n ≤ 4096 by omega)), if_neg (show ¬ n > r * o by omega)]
    by_cases h4 : b + n > r * o
    · rw [if_pos h4, if_pos h4]
    · rw [if_neg h4, if_neg h4, if_neg (show ¬ tot l + n > 1073741824 by omega)]
      by_cases h5 : 0 < l.length ∧ (l.getD (l.length - 1) z71).f0 = now'
      · rw [if_pos h5, if_pos h5]
      · rw [if_neg h5, if_neg h5, if_pos]
        have h8 : (l.filter fun x : S71 => decide (x.f1 > tot l - b)).length ≤ l.length := List.length_filter_le _ _
        rw [List.length_append, List.length_singleton]
        omega
  constructor
  · intro h4
    rw [if_neg (by omega)] at hpre
    by_cases h5 : 0 < l.length ∧ (l.getD (l.length - 1) z71).f0 = now'
    · rw [if_pos h5] at hpre
      obtain ⟨init, last, rfl, hlast, hset⟩ := list_last h5.1
      rw [hset, hs] at hpre
      rw [hlast] at h5
      have htl : tot (init ++ [last]) = last.f1 := tot_snoc init last
      obtain ⟨p1, p2, p3, p4, p5, p6⟩ := srt_parts c8
      refine ⟨init ++ [⟨now', total + n⟩], ⟨?_, Int.le_refl _, tot_snoc _ _, by omega, fun c hc => ?_⟩, by simp, fun k hk => by rw [hw k hk, hpre, show total + n - conf = b + n by omega]⟩
      · refine chk_zero ⟨c1, c2⟩ ⟨c3, c4⟩ ⟨by omega, hn2⟩ (by simp at hlen ⊢; omega) (srt_snoc (srt_later (by omega) p1) (fun i hi => ?_) (by show -1 < now'; omega) (by show 0 < total + n; omega) (Int.le_refl _) (by show total + n ≤ _; omega)) (by rw [tot_snoc]; show 0 ≤ _ ∧ _ ≤ total + n; omega) (fun hl => ?_)
        · have := p2 i hi
          refine ⟨?_, ?_⟩
          · show _ < now'; omega
          · show _ < total + n; omega
        · rw [tot_snoc]
          show total + n - (total + n - conf) < _
          have hc11 := c11 (by simpa using hl)
          have hi0 : 0 < init.length := by simp at hl; omega
          have e1 : (init ++ [(⟨now', total + n⟩ : S71)]).getD 0 z71 = (init ++ [last]).getD 0 z71 := by
            rw [getD_app hi0, getD_app hi0]
          rw [e1]; omega
      · rw [ftW_snoc, ← h.first c hc, ftM_snoc, ftM_snoc]
        show (ftM init c).or (if total + n > c then some now' else none) = ((ftM init c).or (if last.f1 > c then some last.f0 else none)).or (if total + n > c then some now' else none)
        cases ftM init c with
        | some x => simp
        | none =>
          rw [h5.2]
          by_cases h6 : last.f1 > c
          · rw [if_pos h6, if_pos (by omega)]; simp
          · rw [if_neg h6]; simp
    · rw [if_neg h5] at hpre
      have hfl := filter_len (fun x : S71 => decide (x.f1 > tot l - b)) l
      obtain ⟨oo, -, hol, hod, hoi, hoo⟩ := open_drop o r now' (tot l - b) (tot l - b) t l (-1) 0 c8
      refine ⟨(l.filter fun x => decide (x.f1 > tot l - b)) ++ [⟨now', total + n⟩], ⟨?_, Int.le_refl _, tot_snoc _ _, by omega, fun c hc => ?_⟩, by simp; omega, fun k hk => by rw [hw k hk, hpre, hs, show total + n - conf = b + n by omega]⟩
      · rw [← hod]
        refine chk_zero ⟨c1, c2⟩ ⟨c3, c4⟩ ⟨by omega, hn2⟩ (by simp; omega) (srt_snoc (srt_later (by omega) (srt_drop oo c8 (by omega) (by omega))) (fun i hi => ?_) (by show -1 < now'; omega) (by show 0 < total + n; omega) (Int.le_refl _) (by show total + n ≤ _; omega)) (by rw [tot_snoc]; show 0 ≤ _ ∧ _ ≤ total + n; omega) (fun hl => ?_)
        · rw [List.length_drop] at hi
          rw [getD_drop]
          have hg := srt_all_gt c8 (oo + i) (by omega)
          refine ⟨?_, ?_⟩
          · show _ < now'
            obtain ⟨init, last, hl1, hlast, -⟩ := list_last (show 0 < l.length by omega)
            have h6 : last.f0 ≠ now' := fun h7 => h5 ⟨by omega, by rw [hlast]; exact h7⟩
            rw [hl1] at c8
            obtain ⟨p1, p2, p3, p4, p5, p6⟩ := srt_parts c8
            by_cases h7 : oo + i < init.length
            · have := p2 _ h7
              rw [hl1, getD_app h7]; omega
            · have e : oo + i = l.length - 1 := by
                have h9 : l.length = init.length + 1 := by rw [hl1]; simp
                omega
              rw [e, hlast]; omega
          · show _ < total + n; omega
        · rw [tot_snoc]
          show total + n - (total + n - conf) < _
          have hi0 : 0 < (l.drop oo).length := by simp at hl ⊢; omega
          rw [getD_app hi0, getD_drop, Nat.add_zero]
          rw [List.length_drop] at hi0
          have := hoo (by omega)
          omega
      · rw [ftW_snoc, ← h.first c hc, ftM_snoc, ftM_filter (by omega)]
  · intro h4
    rw [if_pos (by omega)] at hpre
    refine ⟨⟨?_, Int.le_refl _, hs, hb, h.first⟩, ?_, fun k hk => by rw [hw k hk, hpre]⟩
    · exact chk_zero ⟨c1, c2⟩ ⟨c3, c4⟩ ⟨by omega, hn2⟩ c7 (srt_later (by omega) c8) ⟨c9, c10⟩ c11
    · have hm : r * (o + 1) ≤ b + n + r - 1 := by rw [Int.mul_add, Int.mul_one]; omega
      have := Int.le_ediv_of_mul_le (show (0:Int) < r by omega) (show (o + 1) * r ≤ b + n + r - 1 by rw [Int.mul_comm]; exact hm)
      omega
end Go.Proofs.Ytppniempndnghaa.PA
