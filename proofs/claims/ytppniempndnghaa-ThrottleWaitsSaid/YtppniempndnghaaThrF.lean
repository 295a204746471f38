/- Plain laws of ThrottleWaits: its two loops over the printed throttle. -/
-- parts A
import Derived.Test.YtppniempndnghaaPAx0
import Derived.Test.YtppniempndnghaaPAx12
import Derived.Test.YtppniempndnghaaPAx41
import Derived.Test.YtppniempndnghaaThrA
namespace Go.Proofs.Ytppniempndnghaa.PA
open Go.RowKit Go.Proofs.YtppniempndnghaaW.PrintWords Go.Proofs.YtppniempndnghaaW.PrintLast Go.Proofs.YtppniempndnghaaW.PrintMore
set_option linter.unusedVariables false
set_option linter.unusedSimpArgs false

/-- What stays true in ThrottleWaits, behind i writes and at most N ticks. -/
structure WInv (i : Nat) (N o r t b : Int) (l : List S71) (now total conf : Int) (L : List S49) : Prop where
  inv : InvT o r t b l now total conf L
  c0 : 0 ≤ conf
  c1 : conf ≤ total
  tt : total ≤ 30 * i
  n0 : 0 ≤ now
  n1 : now ≤ N
  ll : l.length ≤ i
  bk : total - conf ≤ r * o
  ob : 1 ≤ o ∧ o ≤ 12
  rb : 1 ≤ r ∧ r ≤ 6
theorem ro_small {o r : Int} (ho : 1 ≤ o ∧ o ≤ 12) (hr : 1 ≤ r ∧ r ≤ 6) : 1 ≤ r * o ∧ r * o ≤ 72 := by
  have a : 1 * 1 ≤ r * o := Int.mul_le_mul hr.1 ho.1 (by omega) (by omega)
  have b : r * o ≤ 6 * 12 := Int.mul_le_mul hr.2 ho.2 (by omega) (by omega)
  omega

/-- Behind i writes all that follows holds. -/
def GoodW (S : List Int) (i k0 : Nat) : Prop := ∀ k, k0 ≤ k → ∀ o r t b l now total conf L, WInv i (107 * i) o r t b l now total conf L → standbylaw33_ThrottleWaits.l0 k now total conf S (S.length : Int) (i : Int) o r t b l = some true

theorem waits_exit {S : List Int} {i k0 : Nat} (hi : i < 40) (hg : GoodW S (i + 1) k0) (k : Nat) (hk : k0 ≤ k) (hk2 : 100 ≤ k) {o r t b : Int} {l : List S71} {now total conf n : Int} {L : List S49} (hn : 1 ≤ n ∧ n ≤ 30) (h : WInv (i + 1) (107 * (i + 1 : Nat)) o r t b l now (total + n) conf L) (ht : 0 ≤ total) :
    standbylaw33_ThrottleWaits.l1 (k + 1) now total conf n 0 S (S.length : Int) (i : Int) o r t b l = some true := by
  obtain ⟨c1, c2, c3, c4, c5, c6, c7, c8, c9, c10, c11, c12, c13⟩ := chk_ok h.inv.ok
  have h2 := h.tt; have h3 := h.c0; have h4 := h.c1; have hb := h.inv.back; have hll := h.ll
  unfold standbylaw33_ThrottleWaits.l1
  rw [if_neg (by omega)]
  unfold throttle_Backlog.f
  rw [check_f o r t b l (by omega) (by omega) k (by omega)]
  simp only [Option.bind_some]
  rw [if_pos h.inv.ok]
  simp only [Option.bind_some]
  rw [w64 (x := total + n) (by omega), w64 (x := total + n - conf) (by omega), if_pos hb, w64 (x := (i : Int) + 1) (by omega)]
  exact hg k hk o r t b l now (total + n) conf L h

theorem waits_l1 {S : List Int} {i k0 : Nat} (hi : i < 40) (hg : GoodW S (i + 1) k0) (hk0 : 100 ≤ k0) {n : Int} (hn : 1 ≤ n ∧ n ≤ 30) : ∀ (d k : Nat), d + 1 ≤ 107 → k0 + 2 * d + 5 ≤ k → ∀ o r t b l now total conf L, WInv i (107 * i + (106 - d)) o r t b l now total conf L → n ≤ r * o → b + n > r * o → (b + n + r - 1) / r - o = d + 1 →
    standbylaw33_ThrottleWaits.l1 k now total conf n ((d + 1 : Nat) : Int) S (S.length : Int) (i : Int) o r t b l = some true := by
  intro d
  induction d with
  | zero =>
    intro k hd hk o r t b l now total conf L h hfit hover hdel
    obtain ⟨k, rfl⟩ : ∃ k', k = k' + 3 := ⟨k - 3, by omega⟩
    have ho := h.ob; have hr := h.rb; have h0 := h.n0; have h1 := h.n1; have h2 := h.tt; have h3 := h.c0; have h4 := h.c1; have hll := h.ll; have hbk := h.bk; have hb := h.inv.back
    have hro := ro_small ho hr
    unfold standbylaw33_ThrottleWaits.l1
    rw [if_pos (by omega), w64 (x := conf + r) (by omega), w64 (x := now + 1) (by omega)]
    have hmn : conf ≤ mn total (conf + r) ∧ mn total (conf + r) ≤ total := by unfold mn; split <;> omega
    obtain ⟨l', hi', hl', hp⟩ := inv_progress h.inv (now' := now + 1) (conf' := mn total (conf + r)) (by omega) (by omega) (by omega) (by omega)
    rw [hp _ (by omega)]
    simp only [Option.bind_some]
    obtain ⟨hA, hB⟩ := inv_write hi' (now' := now + 1) (n := n) (Int.le_refl _) (by omega) (by omega) hn.1 (by omega) hfit (by omega) (by omega)
    -- the last tick: it fits
    have hD : (b + n + r - 1) / r = o + 1 := by omega
    have hm : b + n + r - 1 < (o + 2) * r := by
      have := Int.lt_mul_of_ediv_lt (show (0 : Int) < r by omega) (show (b + n + r - 1) / r < o + 2 by omega)
      exact this
    rw [Int.add_mul, Int.mul_comm o r] at hm
    have hin : total - mn total (conf + r) + n ≤ r * o := by unfold mn; split <;> omega
    obtain ⟨l2, hi2, hl2, hp2⟩ := hA hin
    rw [hp2 _ (by omega)]
    simp only [Option.bind_some, if_true]
    rw [w64 (x := ((0 + 1 : Nat) : Int) - 1) (by omega)]
    unfold standbylaw33_ThrottleWaits.j4
    rw [if_neg (by simp), if_pos rfl, w64 (x := ((0 + 1 : Nat) : Int) - 1) (by omega)]
    exact waits_exit hi hg _ (by omega) (by omega) hn (L := L ++ [⟨now + 1, total + n⟩]) ⟨hi2, by omega, by omega, by omega, by omega, by omega, by omega, by omega, ho, hr⟩ (by omega)
  | succ d ih =>
    intro k hd hk o r t b l now total conf L h hfit hover hdel
    obtain ⟨k, rfl⟩ : ∃ k', k = k' + 2 := ⟨k - 2, by omega⟩
    have ho := h.ob; have hr := h.rb; have h0 := h.n0; have h1 := h.n1; have h2 := h.tt; have h3 := h.c0; have h4 := h.c1; have hll := h.ll; have hbk := h.bk; have hb := h.inv.back
    have hro := ro_small ho hr
    unfold standbylaw33_ThrottleWaits.l1
    rw [if_pos (by omega), w64 (x := conf + r) (by omega), w64 (x := now + 1) (by omega)]
    have hmn : conf ≤ mn total (conf + r) ∧ mn total (conf + r) ≤ total := by unfold mn; split <;> omega
    obtain ⟨l', hi', hl', hp⟩ := inv_progress h.inv (now' := now + 1) (conf' := mn total (conf + r)) (by omega) (by omega) (by omega) (by omega)
    rw [hp _ (by omega)]
    simp only [Option.bind_some]
    obtain ⟨hA, hB⟩ := inv_write hi' (now' := now + 1) (n := n) (Int.le_refl _) (by omega) (by omega) hn.1 (by omega) hfit (by omega) (by omega)
    -- not the last tick: it does not fit
    have hm : (o + 2) * r ≤ b + n + r - 1 := by
      have := Int.ediv_mul_le (b + n + r - 1) (show r ≠ 0 by omega)
      have h5 : (o + 2) * r ≤ (b + n + r - 1) / r * r := Int.mul_le_mul_of_nonneg_right (by omega) (by omega)
      omega
    rw [Int.add_mul, Int.mul_comm o r] at hm
    have hmv : mn total (conf + r) = conf + r := by unfold mn; split <;> omega
    rw [hmv] at hA hB hi' ⊢
    have hin : ¬ total - (conf + r) + n ≤ r * o := by omega
    obtain ⟨hi2, hd2, hp2⟩ := hB hin
    have hdl : (total - (conf + r) + n + r - 1) / r - o = ((d + 1 : Nat) : Int) := by
      have e := Int.add_mul_ediv_right (total - (conf + r) + n + r - 1) 1 (show r ≠ 0 by omega)
      rw [show total - (conf + r) + n + r - 1 + 1 * r = b + n + r - 1 by omega] at e
      omega
    rw [hp2 _ (by omega), hdl]
    simp only [Option.bind_some, if_true]
    rw [w64 (x := ((d + 1 + 1 : Nat) : Int) - 1) (by omega)]
    unfold standbylaw33_ThrottleWaits.j4
    rw [if_neg (by simp), if_neg (by omega), w64 (x := ((d + 1 + 1 : Nat) : Int) - 1) (by omega), show ((d + 1 + 1 : Nat) : Int) - 1 = ((d + 1 : Nat) : Int) by omega]
    exact ih _ (by omega) (by omega) o r _ _ l' _ _ _ L ⟨hi', by omega, by omega, by omega, by omega, by omega, by omega, by omega, ho, hr⟩ hfit (by omega) (by omega)

theorem waits_good (S : List Int) (hS : S.length ≤ 40) (hw : ∀ x ∈ S, 0 ≤ x ∧ x ≤ 255) : ∀ (d i : Nat), i + d = S.length → GoodW S i (230 * d + 200)
  | 0, i, hd => by
    intro k hk o r t b l now total conf L h
    obtain ⟨k, rfl⟩ : ∃ k', k = k' + 1 := ⟨k - 1, by omega⟩
    unfold standbylaw33_ThrottleWaits.l0
    rw [if_neg (by omega), awake_f _ (by omega)]
    rfl
  | d + 1, i, hd => by
    intro k hk o r t b l now total conf L h
    obtain ⟨k, rfl⟩ : ∃ k', k = k' + 3 := ⟨k - 3, by omega⟩
    have ih := waits_good S hS hw d (i + 1) (by omega)
    have ho := h.ob; have hr := h.rb; have h0 := h.n0; have h1 := h.n1; have h2 := h.tt; have h3 := h.c0; have h4 := h.c1; have hll := h.ll; have hbk := h.bk; have hb := h.inv.back
    have hro := ro_small ho hr
    have hx : 0 ≤ rd S (i : Int) ∧ rd S (i : Int) ≤ 255 := by
      have e : rd S (i : Int) = S[i]'(by omega) := by unfold rd; rw [Int.toNat_natCast, List.getD_eq_getElem?_getD, List.getElem?_eq_getElem (by omega)]; rfl
      rw [e]; exact hw _ (List.getElem_mem _)
    unfold standbylaw33_ThrottleWaits.l0
    rw [if_pos (by omega), if_pos (by omega), if_pos (by omega)]
    generalize rd S (i : Int) = x at hx ⊢
    rw [w64 (x := x) (by omega)]
    have hm1 : 0 ≤ Int.tmod x 30 := Int.tmod_nonneg 30 (by omega)
    have hm2 : Int.tmod x 30 < 30 := Int.tmod_lt_of_pos _ (by omega)
    rw [w64 (x := Int.tmod x 30 + 1) (by omega), w64 (x := r * o) (by omega)]
    obtain ⟨n, hn, hn1⟩ : ∃ n, Int.tmod x 30 + 1 = n ∧ 1 ≤ n ∧ n ≤ 30 := ⟨_, rfl, by omega, by omega⟩
    rw [hn]
    by_cases hfit : n > r * o
    · rw [if_pos hfit, w64 (x := (i : Int) + 1) (by omega)]
      exact ih _ (by omega) o r t b l now total conf L ⟨h.inv, h3, h4, by omega, h0, by omega, by omega, hbk, ho, hr⟩
    · rw [if_neg hfit]
      obtain ⟨hA, hB⟩ := inv_write h.inv (now' := now) (n := n) (Int.le_refl _) (by omega) (by omega) hn1.1 (by omega) (by omega) (by omega) h3
      by_cases hin : total - conf + n ≤ r * o
      · obtain ⟨l', hi', hl', hp⟩ := hA hin
        rw [hp _ (by omega)]
        simp only [Option.bind_some, if_true]
        unfold standbylaw33_ThrottleWaits.j2
        rw [if_neg (by simp)]
        exact waits_exit (by omega) ih _ (by omega) (by omega) hn1 (L := L ++ [⟨now, total + n⟩]) ⟨hi', h3, by omega, by omega, h0, by omega, by omega, by omega, ho, hr⟩ (by omega)
      · obtain ⟨hi', hd0, hp⟩ := hB hin
        rw [hp _ (by omega)]
        simp only [Option.bind_some, if_true]
        have hub : (b + n + r - 1) / r ≤ 107 := by
          have : (b + n + r - 1) / r ≤ b + n + r - 1 := Int.ediv_le_self _ (by omega)
          omega
        obtain ⟨e, he⟩ : ∃ e : Nat, (b + n + r - 1) / r - o = ((e + 1 : Nat) : Int) := ⟨((b + n + r - 1) / r - o - 1).toNat, by omega⟩
        rw [he]
        unfold standbylaw33_ThrottleWaits.j2
        rw [if_neg (by simp; omega)]
        exact waits_l1 (by omega) ih (by omega) hn1 e _ (by omega) (by omega) o r _ b l now total conf L ⟨hi', h3, h4, h2, h0, by omega, by omega, hbk, ho, hr⟩ (by omega) (by omega) (by omega)
end Go.Proofs.Ytppniempndnghaa.PA
