/- CommitGrows of a run. -/
import Derived.Test.YtedoloapddmanaaComB
import Derived.Test.YtedoloapddmanaaComW
import Derived.Test.YtedoloapddmanaaPBx31
namespace Go.Proofs.Ytedoloapddmanaa.PB
open Go.RowKit Go.Proofs.YtedoloapddmanaaW.PrintWords Go.Proofs.YtedoloapddmanaaW.PrintLast Go.Proofs.YtedoloapddmanaaW.PrintMore
set_option linter.unusedVariables false
set_option linter.unusedSimpArgs false
theorem grows_l0 (L : List S71) (hL : L.length ≤ 60) (hx : ∀ x ∈ L, 0 ≤ x.f1 ∧ x.f1 ≤ 255) : ∀ d i : Nat, i + d = L.length → ∀ (e s st ap te ts tst tap : Int) (l o : List Int) (M : List S53) (ok : Bool), Run i e s l st ap te ts tst tap o M ok →
    ∀ k, d + 400 ≤ k → standbylaw32_CommitGrows.l0 k L (i : Int) e s l st ap te ts tst tap o M ok = some true
  | 0, i, hi, e, s, st, ap, te, ts, tst, tap, l, o, M, ok, h, k, hk => by
    obtain ⟨k, rfl⟩ : ∃ m, k = m + 1 := ⟨k - 1, by omega⟩
    unfold standbylaw32_CommitGrows.l0
    rw [if_neg (by omega), awake_f k (by omega)]
    rfl
  | d + 1, i, hi, e, s, st, ap, te, ts, tst, tap, l, o, M, ok, h, k, hk => by
    obtain ⟨k, rfl⟩ : ∃ m, k = m + 1 := ⟨k - 1, by omega⟩
    unfold standbylaw32_CommitGrows.l0
    rw [if_pos (by omega), if_pos (by omega)]
    obtain ⟨e', s', l', st', ap', te', ts', tst', tap', o', M', ok', hs, hN⟩ := step_f h (by omega) (rd_T71 L (i : Int)).f0 (rd_T71 L (i : Int)).f1 (hx _ (rd71 L i (by omega))) k (by omega)
    rw [hs]
    obtain ⟨hR, g1, g2, g3, -⟩ := hN
    have h1 := hR.okk; have h3 := hR.len
    simp only [Option.bind_some]
    rw [if_pos h1, if_neg (by omega), if_neg (by omega), if_neg (by omega), check_f e' s' st' ap' l' (by omega) k (by omega), hR.ck (by omega)]
    simp only [Option.bind_some, if_true]
    rw [checkT_f te' ts' tst' tap' k (by omega), hR.ckt (by omega)]
    simp only [Option.bind_some, if_true]
    rw [w64 (by omega), show (i : Int) + 1 = ((i + 1 : Nat) : Int) by omega]
    exact grows_l0 L hL hx d (i + 1) (by omega) _ _ _ _ _ _ _ _ _ _ _ _ hR k (by omega)
end Go.Proofs.Ytedoloapddmanaa.PB
