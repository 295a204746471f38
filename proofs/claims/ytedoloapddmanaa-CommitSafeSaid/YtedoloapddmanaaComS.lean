/- CommitSafe of a run. -/
import Derived.Test.YtedoloapddmanaaComB
import Derived.Test.YtedoloapddmanaaComW
import Derived.Test.YtedoloapddmanaaPBx30
namespace Go.Proofs.Ytedoloapddmanaa.PB
open Go.RowKit Go.Proofs.YtedoloapddmanaaW.PrintWords Go.Proofs.YtedoloapddmanaaW.PrintLast Go.Proofs.YtedoloapddmanaaW.PrintMore
set_option linter.unusedVariables false
set_option linter.unusedSimpArgs false
theorem safe_l1 (L : List S71) (x4 e s st ap te ts tst tap : Int) (l o : List Int) (M : List S53) (ok : Bool) (hM : M.length ≤ 100000) (N : Nat) (r : Option Bool)
    (hr : ∀ k, N ≤ k → standbylaw32_CommitSafe.l0 k L (wrap64 (x4 + 1)) e s l st ap te ts tst tap o M ok = r) :
    ∀ d i : Nat, i + d = M.length → (∀ m ∈ M.drop i, m.f0 = 10 → m.f5 = te → m.f3 ≤ tst) → ∀ k, N + d + 1 ≤ k → standbylaw32_CommitSafe.l1 k L x4 (i : Int) e s l st ap te ts tst tap o M ok = r
  | 0, i, hi, hm, k, hk => by
    obtain ⟨k, rfl⟩ : ∃ m, k = m + 1 := ⟨k - 1, by omega⟩
    unfold standbylaw32_CommitSafe.l1
    rw [if_neg (by omega), hr k (by omega)]
  | d + 1, i, hi, hm, k, hk => by
    obtain ⟨k, rfl⟩ : ∃ m, k = m + 1 := ⟨k - 1, by omega⟩
    rw [drop53 M i (by omega)] at hm
    have h1 := hm (rd_T53 M (i : Int)) (by simp)
    have ih := safe_l1 L x4 e s st ap te ts tst tap l o M ok hM N r hr d (i + 1) (by omega) (fun m hx => hm m (List.mem_cons_of_mem _ hx)) k (by omega)
    rw [show (((i + 1 : Nat)) : Int) = (i : Int) + 1 by omega] at ih
    unfold standbylaw32_CommitSafe.l1
    rw [if_pos (by omega), if_pos (by omega), w64 (by omega), ih]
    by_cases c1 : (rd_T53 M (i : Int)).f0 = 10
    · rw [if_pos c1]
      by_cases c2 : (rd_T53 M (i : Int)).f5 = te
      · rw [if_pos c2, if_neg (by have := h1 c1 c2; omega)]
      · rw [if_neg c2]
    · rw [if_neg c1]
theorem safe_l0 (L : List S71) (hL : L.length ≤ 60) (hx : ∀ x ∈ L, 0 ≤ x.f1 ∧ x.f1 ≤ 255) : ∀ d i : Nat, i + d = L.length → ∀ (e s st ap te ts tst tap : Int) (l o : List Int) (M : List S53) (ok : Bool), Run i e s l st ap te ts tst tap o M ok →
    ∀ k, 6000 * d + 400 ≤ k → standbylaw32_CommitSafe.l0 k L (i : Int) e s l st ap te ts tst tap o M ok = some true
  | 0, i, hi, e, s, st, ap, te, ts, tst, tap, l, o, M, ok, h, k, hk => by
    obtain ⟨k, rfl⟩ : ∃ m, k = m + 1 := ⟨k - 1, by omega⟩
    unfold standbylaw32_CommitSafe.l0
    rw [if_neg (by omega), awake_f k (by omega)]
    rfl
  | d + 1, i, hi, e, s, st, ap, te, ts, tst, tap, l, o, M, ok, h, k, hk => by
    obtain ⟨k, rfl⟩ : ∃ m, k = m + 2 := ⟨k - 2, by omega⟩
    unfold standbylaw32_CommitSafe.l0
    rw [if_pos (by omega), if_pos (by omega)]
    obtain ⟨e', s', l', st', ap', te', ts', tst', tap', o', M', ok', hs, hN⟩ := step_f h (by omega) (rd_T71 L (i : Int)).f0 (rd_T71 L (i : Int)).f1 (hx _ (rd71 L i (by omega))) (k + 1) (by omega)
    rw [hs]
    obtain ⟨hR, -, -, -, ms, rfl, hnew⟩ := hN
    have h1 := hR.okk; have h2 := hR.ap0; have h3 := hR.len; have h4 := hR.mlen; have h5 := hR.sb
    simp only [Option.bind_some]
    rw [if_pos h1, releasable_f e' s' st' ap' l' (by omega) (k + 1) (by omega), if_pos (hR.ck (by omega)), Option.bind_some, if_neg (by omega)]
    rw [List.length_append] at h4
    have hfin : standbylaw32_CommitSafe.l1 k L (i : Int) (M.length : Int) e' s' l' st' ap' te' ts' tst' tap' o' (M ++ ms) ok' = some true :=
      safe_l1 L (i : Int) e' s' st' ap' te' ts' tst' tap' l' o' (M ++ ms) ok' (by rw [List.length_append]; omega) (6000 * d + 400) (some true)
        (fun k hk => by rw [w64 (by omega), show (i : Int) + 1 = ((i + 1 : Nat) : Int) by omega]; exact safe_l0 L hL hx d (i + 1) (by omega) _ _ _ _ _ _ _ _ _ _ _ _ hR k hk)
        ms.length M.length (by rw [List.length_append]) (by rw [List.drop_left]; exact hnew) k (by omega)
    have hj : standbylaw32_CommitSafe.j1 (k + 1) L (i : Int) (M.length : Int) false e' s' l' st' ap' te' ts' tst' tap' o' (M ++ ms) ok' = some true := by
      rw [standbylaw32_CommitSafe.j1, if_neg Bool.false_ne_true]; exact hfin
    by_cases c : e' = te'
    · rw [if_pos c, decide_eq_false (by have := h5 c; omega)]; exact hj
    · rw [if_neg c]; exact hj
end Go.Proofs.Ytedoloapddmanaa.PB
