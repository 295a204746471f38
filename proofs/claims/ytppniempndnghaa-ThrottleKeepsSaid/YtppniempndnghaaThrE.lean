/- Plain laws of ThrottleKeeps: its two loops over the printed throttle. -/
-- parts A
import Derived.Test.YtppniempndnghaaPAx0
import Derived.Test.YtppniempndnghaaPAx11
import Derived.Test.YtppniempndnghaaPAx12
import Derived.Test.YtppniempndnghaaPAx40
import Derived.Test.YtppniempndnghaaThrB
namespace Go.Proofs.Ytppniempndnghaa.PA
open Go.RowKit Go.Proofs.YtppniempndnghaaW.PrintWords Go.Proofs.YtppniempndnghaaW.PrintLast Go.Proofs.YtppniempndnghaaW.PrintMore
set_option linter.unusedVariables false
set_option linter.unusedSimpArgs false

/-- What stays true in ThrottleKeeps, behind i steps and at most N ticks. -/
structure KInv (i : Nat) (N o r t b : Int) (l : List S71) (now total conf : Int) (L : List S49) : Prop where
  inv : InvT o r t b l now total conf L
  c0 : 0 ≤ conf
  c1 : conf ≤ total
  tt : total ≤ 20 * i
  n0 : 0 ≤ now
  n1 : now ≤ N
  ll : l.length ≤ i
  bk : total - conf ≤ r * o
  keep : ∀ w ∈ L, w.f1 ≤ total ∧ w.f0 ≤ now ∧ (conf < w.f1 → w.f1 - conf + r * (now - w.f0) ≤ r * o)
  LL : L.length ≤ i
  ob : 1 ≤ o ∧ o ≤ 12
  rb : 1 ≤ r ∧ r ≤ 6

theorem tdiv_small {s : Int} (h : 0 ≤ s ∧ s ≤ 65535) {c : Int} (hc : c = 4 ∨ c = 12) : 0 ≤ Int.tdiv s c ∧ Int.tdiv s c ≤ 65535 := by
  rw [Int.tdiv_eq_ediv_of_nonneg h.1]
  rcases hc with rfl | rfl <;> omega
theorem keep_age {i : Nat} {N o r t b : Int} {l : List S71} {now total conf : Int} {L : List S49} (h : KInv i N o r t b l now total conf L) : ageOf (ftM l conf) now ≤ o := by
  rw [h.inv.first conf (Int.le_refl _)]
  have ho := h.ob; have hr := h.rb
  cases hx : ftW L conf with
  | none => show (0 : Int) ≤ o; omega
  | some x =>
    show now - x ≤ o
    unfold ftW at hx
    rw [Option.map_eq_some_iff] at hx
    obtain ⟨m, hm, rfl⟩ := hx
    have hmem := List.mem_of_find?_eq_some hm
    have hp := List.find?_some hm
    simp only [decide_eq_true_eq] at hp
    have hk := (h.keep m hmem).2.2 (by omega)
    rcases Int.lt_or_le o (now - m.f0) with h1 | h1
    · exfalso
      have := Int.mul_le_mul_of_nonneg_left (show o ≤ now - m.f0 by omega) (show 0 ≤ r by omega)
      omega
    · exact h1
/-- One tick. -/
theorem keep_tick {i : Nat} {N o r t b : Int} {l : List S71} {now total conf : Int} {L : List S49} (h : KInv i N o r t b l now total conf L) (hi : i ≤ 60) (hN : N ≤ 1000) {x : Int} (hx : 0 ≤ x ∧ x ≤ 2) :
    ∃ t' b' l', KInv i (N + 1) o r t' b' l' (now + 1) total (mn total (conf + r + x)) L ∧ ∀ k, l.length + 2 ≤ k → throttle_Progress.f k o r t b l (now + 1) (mn total (conf + r + x)) = some (o, r, t', b', l', 0) := by
  have ho := h.ob; have hr := h.rb; have h0 := h.n0; have h1 := h.n1; have h2 := h.tt; have h3 := h.c0; have h4 := h.c1
  have hmn : conf ≤ mn total (conf + r + x) ∧ mn total (conf + r + x) ≤ total := by unfold mn; split <;> omega
  obtain ⟨l', hi', hl', hp⟩ := inv_progress h.inv (now' := now + 1) (conf' := mn total (conf + r + x)) (by omega) (by omega) (by omega) (by omega)
  refine ⟨_, _, l', ⟨hi', by omega, by omega, by omega, by omega, by omega, by have := h.ll; omega, by have := h.bk; omega, fun w hw => ?_, h.LL, ho, hr⟩, hp⟩
  obtain ⟨k1, k2, k3⟩ := h.keep w hw
  refine ⟨k1, by omega, fun hc => ?_⟩
  have k4 := k3 (by omega)
  have e : mn total (conf + r + x) = conf + r + x := by unfold mn at hc ⊢; split at hc <;> split <;> omega
  rw [e]
  have e2 : r * (now + 1 - w.f0) = r * (now - w.f0) + r := by rw [show now + 1 - w.f0 = (now - w.f0) + 1 by omega, Int.mul_add, Int.mul_one]
  omega

/-- Behind i steps all that follows holds. -/
def Good (S : List Int) (i k0 : Nat) : Prop := ∀ k, k0 ≤ k → ∀ o r t b l now total conf L, KInv i (3 * i) o r t b l now total conf L → standbylaw33_ThrottleKeeps.l0 k now total conf L S (S.length : Int) (i : Int) o r t b l = some true

theorem keep_j3 {S : List Int} {i k0 : Nat} (hi : i < 60) (hg : Good S (i + 1) k0) (k : Nat) (hk : k0 ≤ k) (hk2 : 100 ≤ k) {N o r t b : Int} {l : List S71} {now total conf : Int} {L : List S49} (h : KInv (i + 1) (3 * (i + 1 : Nat)) o r t b l now total conf L) :
    standbylaw33_ThrottleKeeps.j3 (k + 1) now total conf L S (S.length : Int) (i : Int) o r t b l = some true := by
  obtain ⟨c1, c2, c3, c4, c5, c6, c7, c8, c9, c10, c11, c12, c13⟩ := chk_ok h.inv.ok
  have ho := h.ob; have hr := h.rb; have h2 := h.tt; have h3 := h.c0; have h4 := h.c1; have hb := h.inv.back; have hbk := h.bk; have hll := h.ll
  have hro := ro_bound ho.1 (show o ≤ 1073741824 by omega) hr.1 (show r ≤ 4096 by omega)
  conv => lhs; unfold standbylaw33_ThrottleKeeps.j3
  unfold throttle_Backlog.f
  rw [check_f o r t b l (by omega) (by omega) k (by omega)]
  simp only [Option.bind_some]
  rw [if_pos h.inv.ok]
  simp only [Option.bind_some]
  rw [w64 (x := r * o) (by omega), if_neg (by omega), w64 (x := total - conf) (by omega), if_pos hb, w64 (x := (i : Int) + 1) (by omega)]
  exact hg k hk o r t b l now total conf L h

theorem keep_l1 {S : List Int} {i k0 : Nat} (hi : i < 60) (hg : Good S (i + 1) k0) (hk0 : 100 ≤ k0) (hs : Int) (hs1 : 0 ≤ hs ∧ hs ≤ 65535) (m : Nat) (hm : m ≤ 3) : ∀ (e j k : Nat), j + e = m → k0 + 2 + e ≤ k → ∀ o r t b l now total conf L, KInv i (3 * i + j) o r t b l now total conf L →
    standbylaw33_ThrottleKeeps.l1 k now total conf L hs S (S.length : Int) (i : Int) (m : Int) (j : Int) o r t b l = some true
  | 0, j, k, he, hk, o, r, t, b, l, now, total, conf, L, h => by
    obtain ⟨k, rfl⟩ : ∃ k', k = k' + 2 := ⟨k - 2, by omega⟩
    obtain ⟨c1, c2, c3, c4, c5, c6, c7, c8, c9, c10, c11, c12, c13⟩ := chk_ok h.inv.ok
    have ho := h.ob; have hr := h.rb; have h0 := h.n0; have h1 := h.n1; have h2 := h.tt; have h3 := h.c0; have h4 := h.c1; have hb := h.inv.back; have hbk := h.bk; have hll := h.ll; have hLL := h.LL
    have hro := ro_bound ho.1 (show o ≤ 1073741824 by omega) hr.1 (show r ≤ 4096 by omega)
    have hd := tdiv_small hs1 (c := 12) (Or.inr rfl)
    unfold standbylaw33_ThrottleKeeps.l1
    rw [if_neg (by omega), w64 (x := hs) (by omega), w64 (x := Int.tdiv hs 12) (by omega)]
    have hq1 : 0 ≤ Int.tmod (Int.tdiv hs 12) 20 := Int.tmod_nonneg 20 hd.1
    have hq2 : Int.tmod (Int.tdiv hs 12) 20 < 20 := Int.tmod_lt_of_pos _ (by omega)
    rw [w64 (x := Int.tmod (Int.tdiv hs 12) 20 + 1) (by omega)]
    obtain ⟨n, hn, hn1, hn2⟩ : ∃ n, Int.tmod (Int.tdiv hs 12) 20 + 1 = n ∧ 1 ≤ n ∧ n ≤ 20 := ⟨_, rfl, by omega, by omega⟩
    rw [hn]
    by_cases hfit : n ≤ r * o
    · obtain ⟨hA, hB⟩ := inv_write h.inv (now' := now) (n := n) (Int.le_refl _) (by omega) (by omega) hn1 (by omega) hfit (by omega) h3
      by_cases hin : total - conf + n ≤ r * o
      · obtain ⟨l', hi', hl', hp⟩ := hA hin
        rw [hp _ (by omega)]
        simp only [Option.bind_some, if_true]
        rw [if_pos (by omega), w64 (x := total + n) (by omega)]
        refine keep_j3 hi hg k (by omega) (by omega) (N := 0) ⟨hi', h3, by omega, by omega, h0, by omega, by omega, by omega, fun w hw => ?_, by simp; omega, ho, hr⟩
        rcases List.mem_append.1 hw with hw | hw
        · obtain ⟨k1, k2, k3⟩ := h.keep w hw
          exact ⟨by omega, k2, k3⟩
        · obtain rfl := List.mem_singleton.1 hw
          refine ⟨Int.le_refl _, Int.le_refl _, fun _ => ?_⟩
          show total + n - conf + r * (now - now) ≤ r * o
          rw [Int.sub_self, Int.mul_zero]; omega
      · obtain ⟨hi', hd0, hp⟩ := hB hin
        rw [hp _ (by omega)]
        simp only [Option.bind_some, if_true]
        rw [if_neg (by omega)]
        exact keep_j3 hi hg k (by omega) (by omega) (N := 0) ⟨hi', h3, h4, by omega, h0, by omega, by omega, hbk, h.keep, by omega, ho, hr⟩
    · rw [write_f o r t b l now n (by omega) (by omega) _ (by omega)]
      have hw : (wr o r t b l now n).2.2.2.2.2.2 = 21 := by
        unfold wr
        rw [if_neg (not_not_intro h.inv.ok), if_neg (not_not_intro (show t ≤ now ∧ now ≤ 1073741824 by have := h.inv.time; omega)), if_neg (not_not_intro (show 1 ≤ n ∧ n ≤ 4096 by omega)), if_pos (show n > r * o by omega)]
      simp only [Option.bind_some]
      rw [hw, if_neg (by omega), if_pos rfl, w64 (x := r * o) (by omega), if_neg hfit, w64 (x := (i : Int) + 1) (by omega)]
      exact hg _ (by omega) o r t b l now total conf L ⟨h.inv, h3, h4, by omega, h0, by omega, by omega, hbk, h.keep, by omega, ho, hr⟩
  | e + 1, j, k, he, hk, o, r, t, b, l, now, total, conf, L, h => by
    obtain ⟨k, rfl⟩ : ∃ k', k = k' + 1 := ⟨k - 1, by omega⟩
    have ho := h.ob; have hr := h.rb; have h0 := h.n0; have h1 := h.n1; have h2 := h.tt; have h3 := h.c0; have h4 := h.c1; have hll := h.ll; have hLL := h.LL
    have hd := tdiv_small hs1 (c := 4) (Or.inl rfl)
    unfold standbylaw33_ThrottleKeeps.l1
    rw [if_pos (by omega), w64 (x := hs) (by omega), w64 (x := Int.tdiv hs 4) (by omega)]
    have hq1 : 0 ≤ Int.tmod (Int.tdiv hs 4) 3 := Int.tmod_nonneg 3 hd.1
    have hq2 : Int.tmod (Int.tdiv hs 4) 3 < 3 := Int.tmod_lt_of_pos _ (by omega)
    obtain ⟨x, hx, hx1, hx2⟩ : ∃ x, Int.tmod (Int.tdiv hs 4) 3 = x ∧ 0 ≤ x ∧ x ≤ 2 := ⟨_, rfl, by omega, by omega⟩
    rw [hx, w64 (x := conf + r) (by omega), w64 (x := conf + r + x) (by omega), w64 (x := now + 1) (by omega)]
    obtain ⟨t', b', l', h', hp⟩ := keep_tick h (by omega) (by omega) (x := x) ⟨hx1, hx2⟩
    have hage := keep_age h'
    obtain ⟨c1, c2, c3, c4, c5, c6, c7, c8, c9, c10, c11, c12, c13⟩ := chk_ok h'.inv.ok
    have g3 := h'.c0; have g4 := h'.c1; have g5 := h'.ll; have g1 := h'.inv.time
    rw [hp _ (by omega)]
    simp only [Option.bind_some, if_true]
    rw [age_f h'.inv g3 g4 (Int.le_refl _) (by omega) k (by omega), oldest_f L _ _ (by omega) k (by omega)]
    simp only [Option.bind_some]
    rw [if_neg (by omega), if_pos, w64 (x := (j : Int) + 1) (by omega)]
    · exact keep_l1 hi hg hk0 hs hs1 m hm e (j + 1) k (by omega) (by omega) o r t' b' l' _ _ _ L (by rw [show (3 * (i : Int) + ((j + 1 : Nat) : Int)) = 3 * i + j + 1 by omega]; exact h')
    · rw [← h'.inv.first _ (Int.le_refl _)]
      unfold ageOf
      cases hx : ftM l' (mn total (conf + r + x)) with
      | none => rfl
      | some y =>
        have := age_range c8 (by omega) hx
        show now + 1 - y = wrap64 (now + 1 - y)
        rw [w64 (by omega)]

theorem keep_good (S : List Int) (hS : S.length ≤ 60) (hw : ∀ x ∈ S, 0 ≤ x ∧ x ≤ 65535) : ∀ (d i : Nat), i + d = S.length → Good S i (6 * d + 200)
  | 0, i, hd => by
    intro k hk o r t b l now total conf L h
    obtain ⟨k, rfl⟩ : ∃ k', k = k' + 1 := ⟨k - 1, by omega⟩
    unfold standbylaw33_ThrottleKeeps.l0
    rw [if_neg (by omega), awake_f _ (by omega)]
    rfl
  | d + 1, i, hd => by
    intro k hk o r t b l now total conf L h
    obtain ⟨k, rfl⟩ : ∃ k', k = k' + 1 := ⟨k - 1, by omega⟩
    have hx : 0 ≤ rd S (i : Int) ∧ rd S (i : Int) ≤ 65535 := by
      have e : rd S (i : Int) = S[i]'(by omega) := by unfold rd; rw [Int.toNat_natCast, List.getD_eq_getElem?_getD, List.getElem?_eq_getElem (by omega)]; rfl
      rw [e]; exact hw _ (List.getElem_mem _)
    unfold standbylaw33_ThrottleKeeps.l0
    rw [if_pos (by omega), if_pos (by omega), if_pos (by omega)]
    generalize rd S (i : Int) = x at hx ⊢
    rw [w64 (x := x) (by omega)]
    have hm1 : 0 ≤ Int.tmod x 4 := Int.tmod_nonneg 4 (by omega)
    have hm2 : Int.tmod x 4 < 4 := Int.tmod_lt_of_pos _ (by omega)
    obtain ⟨m, hm⟩ : ∃ m : Nat, Int.tmod x 4 = (m : Int) := ⟨(Int.tmod x 4).toNat, by omega⟩
    rw [hm]
    exact keep_l1 (by omega) (keep_good S hS hw d (i + 1) (by omega)) (by omega) x hx m (by omega) m 0 k (by omega) (by omega) o r t b l now total conf L (by simpa using h)
end Go.Proofs.Ytppniempndnghaa.PA
