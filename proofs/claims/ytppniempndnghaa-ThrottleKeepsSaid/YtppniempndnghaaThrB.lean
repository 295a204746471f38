/- Plain laws of the printed Age, of the oldest write, and of one round of the accounts. -/
-- parts A
import Derived.Test.YtppniempndnghaaPAx0
import Derived.Test.YtppniempndnghaaPAx4
import Derived.Test.YtppniempndnghaaPAx12
import Derived.Test.YtppniempndnghaaPAy19
import Derived.Test.YtppniempndnghaaPAx20
import Derived.Test.YtppniempndnghaaThrA
namespace Go.Proofs.Ytppniempndnghaa.PA
open Go.RowKit Go.Proofs.YtppniempndnghaaW.PrintWords Go.Proofs.YtppniempndnghaaW.PrintLast Go.Proofs.YtppniempndnghaaW.PrintMore
set_option linter.unusedVariables false
set_option linter.unusedSimpArgs false

/-- The age that a first time tells. -/
def ageOf (x : Option Int) (now : Int) : Int := match x with
  | none => 0
  | some t => now - t
theorem ftM_at {l : List S71} {c : Int} {q : Nat} (hq : q < l.length) (h : ∀ i, i < q → ¬ (l.getD i z71).f1 > c) (h1 : (l.getD q z71).f1 > c) : ftM l c = some (l.getD q z71).f0 := by
  rw [← ftM_drop c l q (fun i hi _ => h i hi), drop_rd hq]
  unfold ftM
  rw [List.find?_cons_of_pos (by simpa using h1)]
  rfl
theorem age_f {o r t b : Int} {l : List S71} {now total conf : Int} {L : List S49} (h : InvT o r t b l now total conf L) (hc : 0 ≤ conf) (hc2 : conf ≤ total) {at_ : Int} (ha : now ≤ at_) (ha2 : at_ ≤ 9223372036854775807) (k : Nat) (hk : l.length + 3 ≤ k) :
    throttle_Age.f k o r t b l at_ = some (ageOf (ftM l conf) at_) := by
  obtain ⟨c1, c2, c3, c4, c5, c6, c7, c8, c9, c10, c11, c12, c13⟩ := chk_ok h.ok
  have hs := h.sum; have hb := h.back; have ht := h.time
  obtain ⟨k, rfl⟩ : ∃ k', k = k' + 1 := ⟨k - 1, by omega⟩
  unfold throttle_Age.f
  rw [check_f o r t b l (by omega) (by omega) (k + 1) (by omega)]
  simp only [Option.bind_some]
  rw [if_pos h.ok]
  rw [throttle_Age.j0]
  by_cases hb0 : b = 0
  · rw [if_pos (by simp [hb0])]
    rw [ftM_none (fun i hi => by have := (srt_all_gt c8 i hi).2; omega)]
    rfl
  · rw [if_neg (by simp [hb0])]
    unfold throttle_state_confirmed.f
    rw [total_f _ _ _ _ _ (by omega)]
    simp only [Option.bind_some]
    rw [w64 (x := tot l - b) (by omega)]
    obtain ⟨q, ho, hol, -, hoi, hoo⟩ := open_drop o r t b (tot l - b) t l (-1) 0 c8
    rw [ho]
    simp only [Option.bind_some]
    have hq : q < l.length := by
      rcases Nat.lt_or_ge q l.length with h1 | h1
      · exact h1
      · exfalso
        by_cases h0 : l.length = 0
        · have : l = [] := List.eq_nil_of_length_eq_zero h0
          subst this; simp [tot] at hs; omega
        · have := hoi (l.length - 1) (by omega)
          have e : tot l = (l.getD (l.length - 1) z71).f1 := by unfold tot; rw [if_neg h0]
          omega
    have hg := srt_ge c8 q hq
    rw [if_pos (by omega), if_pos (by omega), rd_nat, if_neg (by omega), if_pos (by omega), if_pos (by omega), w64 (by omega)]
    rw [ftM_at hq (fun i hi => by have := hoi i hi; omega) (by have := hoo hq; omega)]
    unfold mx ageOf
    split
    · rfl
    · show some (0 : Int) = some (at_ - (l.getD q z71).f0)
      rw [show at_ - (l.getD q z71).f0 = 0 by omega]
theorem rd_nat49 (l : List S49) (n : Nat) : rd_T49 l (n : Int) = l.getD n z49 := by simp [rd_T49]
theorem drop_rd49 {l : List S49} {n : Nat} (h : n < l.length) : l.drop n = l.getD n z49 :: l.drop (n + 1) := by
  rw [List.drop_eq_getElem_cons h, List.getD_eq_getElem?_getD, List.getElem?_eq_getElem h]; rfl
theorem oldest_l0 (L : List S49) (c now : Int) (hL : L.length ≤ 9223372036854775806) : ∀ (d n k : Nat), n + d = L.length → d < k →
    standbylaw33_oldest.l0 k c now L (L.length : Int) (n : Int) = some (match ftW (L.drop n) c with | none => 0 | some t => wrap64 (now - t))
  | 0, n, k, h, hk => by
    obtain ⟨k, rfl⟩ : ∃ k', k = k' + 1 := ⟨k - 1, by omega⟩
    unfold standbylaw33_oldest.l0
    rw [if_neg (by omega), List.drop_eq_nil_of_le (by omega)]
    rfl
  | d + 1, n, k, h, hk => by
    obtain ⟨k, rfl⟩ : ∃ k', k = k' + 1 := ⟨k - 1, by omega⟩
    unfold standbylaw33_oldest.l0
    rw [if_pos (by omega), if_pos (by omega), if_pos (by omega), rd_nat49, drop_rd49 (by omega)]
    unfold ftW
    by_cases h1 : (L.getD n z49).f1 > c
    · rw [if_pos h1, List.find?_cons_of_pos (by simpa using h1)]
      rfl
    · rw [if_neg h1, List.find?_cons_of_neg (by simpa using h1), w64 (by omega)]
      exact oldest_l0 L c now hL d (n + 1) k (by omega) (by omega)
theorem oldest_f (L : List S49) (c now : Int) (hL : L.length ≤ 9223372036854775806) (k : Nat) (hk : L.length < k) :
    standbylaw33_oldest.f k L c now = some (match ftW L c with | none => 0 | some t => wrap64 (now - t)) := by
  unfold standbylaw33_oldest.f
  exact oldest_l0 L c now hL L.length 0 k (by omega) (by omega)

theorem age_range {l : List S71} {c t : Int} {p q : Int} (h : srt t p q l = true) (hp : -1 ≤ p) {x : Int} (hx : ftM l c = some x) : 0 ≤ x ∧ x ≤ t := by
  unfold ftM at hx
  rw [Option.map_eq_some_iff] at hx
  obtain ⟨m, hm, rfl⟩ := hx
  have hmem := List.mem_of_find?_eq_some hm
  obtain ⟨i, hi, rfl⟩ := List.mem_iff_getElem.1 hmem
  have := srt_ge h i hi
  rw [List.getD_eq_getElem?_getD, List.getElem?_eq_getElem hi] at this
  simp at this
  omega

theorem acc_j3 {o r t b : Int} {l : List S71} {now total conf : Int} {L : List S49} (h : InvT o r t b l now total conf L) (hc : 0 ≤ conf) (hc2 : conf ≤ total) (hn : 0 ≤ now) (hn2 : now ≤ 1073741824) (ht : total ≤ 1073741824) (hl : l.length ≤ 100) (hL : L.length ≤ 100) (S : List Int) (len : Int) (i : Nat) (hi : i ≤ 60) (k : Nat) (hk : 150 ≤ k) :
    standbylaw33_ThrottleAccounts.j3 (k + 1) now total conf L S len (i : Int) o r t b l = standbylaw33_ThrottleAccounts.l0 k now total conf L S len ((i + 1 : Nat) : Int) o r t b l := by
  obtain ⟨c1, c2, c3, c4, c5, c6, c7, c8, c9, c10, c11, c12, c13⟩ := chk_ok h.ok
  have hs := h.sum; have hb := h.back; have htm := h.time
  conv => lhs; unfold standbylaw33_ThrottleAccounts.j3
  rw [check_f o r t b l (by omega) (by omega) k (by omega)]
  simp only [Option.bind_some]
  rw [if_pos h.ok]
  unfold throttle_Backlog.f
  rw [check_f o r t b l (by omega) (by omega) k (by omega)]
  simp only [Option.bind_some]
  rw [if_pos h.ok]
  simp only [Option.bind_some]
  rw [w64 (x := total - conf) (by omega), if_pos hb, w64 (x := now + 5) (by omega), age_f h hc hc2 (by omega) (by omega) k (by omega), oldest_f L conf _ (by omega) k (by omega)]
  simp only [Option.bind_some]
  rw [if_pos, w64 (x := (i : Int) + 1) (by omega)]
  · rfl
  · rw [← h.first conf (Int.le_refl _)]
    unfold ageOf
    cases hx : ftM l conf with
    | none => rfl
    | some x =>
      have := age_range c8 (by omega) hx
      show now + 5 - x = wrap64 (now + 5 - x)
      rw [w64 (by omega)]

theorem acc_l0 (S : List Int) (hS : S.length ≤ 60) (hw : ∀ x ∈ S, -128 ≤ x ∧ x ≤ 127) : ∀ (d i k : Nat) (o r t b : Int) (l : List S71) (now total conf : Int) (L : List S49), i + d = S.length → InvT o r t b l now total conf L → 0 ≤ conf → conf ≤ total → total ≤ 128 * i → 0 ≤ now → now ≤ 255 + 3 * i → l.length ≤ i → L.length ≤ i → 1 ≤ o ∧ o ≤ 4096 → 1 ≤ r ∧ r ≤ 4096 → 3 * d + 200 ≤ k →
    standbylaw33_ThrottleAccounts.l0 k now total conf L S (S.length : Int) (i : Int) o r t b l = some true
  | 0, i, k, o, r, t, b, l, now, total, conf, L, hd, h, h1, h2, h3, h4, h5, h6, h7, ho, hr, hk => by
    obtain ⟨k, rfl⟩ : ∃ k', k = k' + 1 := ⟨k - 1, by omega⟩
    unfold standbylaw33_ThrottleAccounts.l0
    rw [if_neg (by omega), awake_f _ (by omega)]
    rfl
  | d + 1, i, k, o, r, t, b, l, now, total, conf, L, hd, h, h1, h2, h3, h4, h5, h6, h7, ho, hr, hk => by
    obtain ⟨k, rfl⟩ : ∃ k', k = k' + 3 := ⟨k - 3, by omega⟩
    have hx : -128 ≤ rd S (i : Int) ∧ rd S (i : Int) ≤ 127 := by
      have e : rd S (i : Int) = S[i]'(by omega) := by unfold rd; rw [Int.toNat_natCast, List.getD_eq_getElem?_getD, List.getElem?_eq_getElem (by omega)]; rfl
      rw [e]; exact hw _ (List.getElem_mem _)
    have hm1 : 0 ≤ Int.tmod (i : Int) 3 := Int.tmod_nonneg 3 (by omega)
    have hm2 : Int.tmod (i : Int) 3 < 3 := Int.tmod_lt_of_pos _ (by omega)
    unfold standbylaw33_ThrottleAccounts.l0
    rw [if_pos (by omega), if_pos (by omega), if_pos (by omega)]
    generalize Int.tmod (i : Int) 3 = m at hm1 hm2 ⊢
    generalize rd S (i : Int) = x at hx ⊢
    rw [w64 (x := x) (by omega), w64 (x := now + m) (by omega)]
    by_cases hneg : x < 0
    · rw [if_pos hneg, w64 (x := conf - x) (by omega)]
      have hmn : conf ≤ mn total (conf - x) ∧ mn total (conf - x) ≤ total := by unfold mn; split <;> omega
      obtain ⟨l', hi, hl', hp⟩ := inv_progress h (now' := now + m) (conf' := mn total (conf - x)) (by omega) (by omega) (by omega) (by omega)
      rw [hp _ (by omega)]
      simp only [Option.bind_some, if_true]
      rw [acc_j3 hi (by omega) (by omega) (by omega) (by omega) (by omega) (by omega) (by omega) S _ i (by omega) _ (by omega)]
      exact acc_l0 S hS hw d (i + 1) _ o r _ _ l' _ _ _ L (by omega) hi (by omega) (by omega) (by omega) (by omega) (by omega) (by omega) (by omega) ho hr (by omega)
    · rw [if_neg hneg, w64 (x := x + 1) (by omega)]
      have hro := ro_bound ho.1 (show o ≤ 1073741824 by omega) hr.1 hr.2
      rw [w64 (x := r * o) (by omega)]
      by_cases hfit : x + 1 ≤ r * o
      · rw [if_pos hfit]
        obtain ⟨hA, hB⟩ := inv_write h (now' := now + m) (n := x + 1) (by omega) (by omega) (by omega) (by omega) (by omega) hfit (by omega) h1
        rw [w64 (x := total - conf) (by omega), w64 (x := total - conf + (x + 1)) (by omega)]
        by_cases hin : total - conf + (x + 1) ≤ r * o
        · obtain ⟨l', hi, hl', hp⟩ := hA hin
          rw [hp _ (by omega)]
          simp only [Option.bind_some, if_true]
          unfold standbylaw33_ThrottleAccounts.j2
          rw [if_neg (by simp [hin]), if_pos rfl, if_pos (by omega), w64 (x := total + (x + 1)) (by omega)]
          rw [acc_j3 hi (by omega) (by omega) (by omega) (by omega) (by omega) (by omega) (by simp; omega) S _ i (by omega) _ (by omega)]
          exact acc_l0 S hS hw d (i + 1) _ o r _ _ l' _ _ _ _ (by omega) hi (by omega) (by omega) (by omega) (by omega) (by omega) (by omega) (by simp; omega) ho hr (by omega)
        · obtain ⟨hi, hd0, hp⟩ := hB hin
          rw [hp _ (by omega)]
          simp only [Option.bind_some, if_true]
          generalize (b + (x + 1) + r - 1) / r - o = dl at hd0 ⊢
          unfold standbylaw33_ThrottleAccounts.j2
          rw [if_neg (by simp [hin]; omega), if_neg (by omega)]
          rw [acc_j3 hi (by omega) (by omega) (by omega) (by omega) (by omega) (by omega) (by omega) S _ i (by omega) _ (by omega)]
          exact acc_l0 S hS hw d (i + 1) _ o r _ _ l _ _ _ _ (by omega) hi (by omega) (by omega) (by omega) (by omega) (by omega) (by omega) (by omega) ho hr (by omega)
      · rw [if_neg hfit]
        have hi : InvT o r t b l (now + m) total conf L := ⟨h.ok, by have := h.time; omega, h.sum, h.back, h.first⟩
        rw [acc_j3 hi (by omega) (by omega) (by omega) (by omega) (by omega) (by omega) (by omega) S _ i (by omega) _ (by omega)]
        exact acc_l0 S hS hw d (i + 1) _ o r _ _ l _ _ _ _ (by omega) hi (by omega) (by omega) (by omega) (by omega) (by omega) (by omega) (by omega) ho hr (by omega)
/-- begin makes an empty throttle, in order. -/
theorem begin_f (a0 a1 : Int) (h0 : 0 ≤ a0 ∧ a0 ≤ 255) (h1 : 0 ≤ a1 ∧ a1 ≤ 255) : ∃ o r, 1 ≤ o ∧ o ≤ 12 ∧ 1 ≤ r ∧ r ≤ 6 ∧ standbylaw33_begin.f a0 a1 = some (o, r, 0, 0, [], true) := by
  have hm1 : 0 ≤ Int.tmod a0 12 := Int.tmod_nonneg 12 (by omega)
  have hm2 : Int.tmod a0 12 < 12 := Int.tmod_lt_of_pos _ (by omega)
  have hm3 : 0 ≤ Int.tmod a1 6 := Int.tmod_nonneg 6 (by omega)
  have hm4 : Int.tmod a1 6 < 6 := Int.tmod_lt_of_pos _ (by omega)
  refine ⟨Int.tmod a0 12 + 1, Int.tmod a1 6 + 1, by omega, by omega, by omega, by omega, ?_⟩
  unfold standbylaw33_begin.f
  rw [w64 (x := a0) (by omega), w64 (x := a1) (by omega), w64 (x := Int.tmod a0 12 + 1) (by omega), w64 (x := Int.tmod a1 6 + 1) (by omega), new_f, if_pos (by omega)]
  rfl
theorem inv_new (o r now : Int) (ho : 1 ≤ o ∧ o ≤ 12) (hr : 1 ≤ r ∧ r ≤ 6) (hn : 0 ≤ now) : InvT o r 0 0 [] now 0 0 [] :=
  ⟨chk_zero ⟨by omega, by omega⟩ ⟨by omega, by omega⟩ (by omega) (by simp) (by simp [srt]) (by simp [tot]) (by simp), hn, by simp [tot], rfl, fun c _ => rfl⟩
end Go.Proofs.Ytppniempndnghaa.PA
