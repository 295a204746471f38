/- CommitRefuses of a run. -/
import Derived.Test.YtedoloapddmanaaComB
import Derived.Test.YtedoloapddmanaaComW
import Derived.Test.YtedoloapddmanaaPBx33
namespace Go.Proofs.Ytedoloapddmanaa.PB
open Go.RowKit Go.Proofs.YtedoloapddmanaaW.PrintWords Go.Proofs.YtedoloapddmanaaW.PrintLast Go.Proofs.YtedoloapddmanaaW.PrintMore
set_option linter.unusedVariables false
set_option linter.unusedSimpArgs false
theorem refuses_l1 (L : List S71) (x4 e s st ap te ts tst tap : Int) (n : Nat) (l o : List Int) (M : List S53) (ok : Bool) (h : Run n e s l st ap te ts tst tap o M ok) (hn : n ≤ 60) (N : Nat) (hN : 400 ≤ N) (r : Option Bool)
    (hr : ∀ k, N ≤ k → standbylaw32_CommitRefuses.l0 k L (wrap64 (x4 + 1)) e s l st ap te ts tst tap o M ok = r) :
    ∀ d i : Nat, i + d = M.length → ∀ k, N + 3 * d + 1 ≤ k → standbylaw32_CommitRefuses.l1 k L x4 (i : Int) e s l st ap te ts tst tap o M ok = r
  | 0, i, hi, k, hk => by
    obtain ⟨k, rfl⟩ : ∃ m, k = m + 1 := ⟨k - 1, by omega⟩
    unfold standbylaw32_CommitRefuses.l1
    rw [if_neg (by omega), hr k (by omega)]
  | d + 1, i, hi, k, hk => by
    obtain ⟨k, rfl⟩ : ∃ m, k = m + 3 := ⟨k - 3, by omega⟩
    have hml := h.mlen
    have hM := h.msg _ (rd_mem M (i : Int) (by omega) (by omega))
    have hw : wrap64 ((i : Int) + 1) = ((i + 1 : Nat) : Int) := by rw [w64 (by omega)]; omega
    have ih := fun k hk => refuses_l1 L x4 e s st ap te ts tst tap n l o M ok h hn N hN r hr d (i + 1) (by omega) k hk
    have jt : standbylaw32_CommitRefuses.j2 (k + 2) L x4 (i : Int) true e s l st ap te ts tst tap o M ok (rd_T53 M (i : Int)).f0 (rd_T53 M (i : Int)).f1 (rd_T53 M (i : Int)).f2 (rd_T53 M (i : Int)).f3 (rd_T53 M (i : Int)).f4 (rd_T53 M (i : Int)).f5 = r := by
      unfold standbylaw32_CommitRefuses.j2
      rw [if_pos (rfl : true = true), hw]
      exact ih _ (by omega)
    unfold standbylaw32_CommitRefuses.l1
    rw [if_pos (by omega), if_pos (by omega)]
    have hj : (rd_T53 M (i : Int)).f0 = 8 ∨ (rd_T53 M (i : Int)).f0 = 10 → standbylaw32_CommitRefuses.j2 (k + 2) L x4 (i : Int) (decide ((rd_T53 M (i : Int)).f5 ≥ te)) e s l st ap te ts tst tap o M ok (rd_T53 M (i : Int)).f0 (rd_T53 M (i : Int)).f1 (rd_T53 M (i : Int)).f2 (rd_T53 M (i : Int)).f3 (rd_T53 M (i : Int)).f4 (rd_T53 M (i : Int)).f5 = r := by
      intro hk8
      by_cases c : (rd_T53 M (i : Int)).f5 ≥ te
      · rw [decide_eq_true c]; exact jt
      · rw [decide_eq_false c]
        have h0 := h.e0; have hlen := h.len; have hap := h.ap0
        have hA : answerP te ts tst tap (rd_T53 M (i : Int)).f0 (rd_T53 M (i : Int)).f2 (rd_T53 M (i : Int)).f5 = (te, ts, tst, tap, [⟨12, ts, 0, 0, 0, te, (), ()⟩]) := by
          unfold answerP
          rw [if_pos ⟨h.ckt hn, by rw [hM.tt hk8, h.ts2], ⟨hM.lo, by omega⟩, hk8⟩, if_pos (by omega)]
        have hS : learnP (rd_T53 M (i : Int)).f5 s l st ap 12 ts 0 te = (te, s, [], ap, ap, []) := by
          unfold learnP
          have hc : ckS (rd_T53 M (i : Int)).f5 s l st ap = 0 := ckS_ok ⟨hM.lo, by omega⟩ (by rw [h.s2]; decide) ⟨hap.1, by omega⟩ (by omega) h.ris h.st1
          rw [if_pos ⟨hc, by rw [h.s2, h.ts2], by omega, by omega, .inr (.inr rfl)⟩, if_pos (by omega)]
        unfold standbylaw32_CommitRefuses.j2
        rw [if_neg Bool.false_ne_true, answer_f te ts tst tap _ _ _ _ _ _ _ _ (k + 1) (by omega), hA]
        simp only [Option.bind_some, beq_self_eq_true, Bool.not_true, Bool.or_self, Bool.false_eq_true, if_false, List.length_cons, List.length_nil, Nat.zero_add, Int.natCast_one, if_true, show (0 : Int) < 1 by decide, show rd_T53 [(⟨12, ts, 0, 0, 0, te, (), ()⟩ : S53)] 0 = ⟨12, ts, 0, 0, 0, te, (), ()⟩ from rfl, bne_self_eq_false]
        unfold standbylaw32_CommitRefuses.j3
        rw [if_neg Bool.false_ne_true]
        simp only [List.length_cons, List.length_nil, Nat.zero_add, Int.natCast_one, show (0 : Int) < 1 by decide, if_true, show rd_T53 [(⟨12, ts, 0, 0, 0, te, (), ()⟩ : S53)] 0 = ⟨12, ts, 0, 0, 0, te, (), ()⟩ from rfl]
        rw [learn_f _ s st ap 12 ts 0 0 0 te l () () (by omega) k (by omega), hS]
        simp only [Option.bind_some, List.length_nil, Int.natCast_zero, if_true]
        rw [hw]
        exact ih k (by omega)
    by_cases c8 : (rd_T53 M (i : Int)).f0 = 8
    · rw [if_pos c8]; exact hj (.inl c8)
    · rw [if_neg c8]
      by_cases c10 : (rd_T53 M (i : Int)).f0 = 10
      · rw [if_pos c10]; exact hj (.inr c10)
      · rw [if_neg c10]; exact jt
theorem refuses_l0 (L : List S71) (hL : L.length ≤ 60) (hx : ∀ x ∈ L, 0 ≤ x.f1 ∧ x.f1 ≤ 255) : ∀ d i : Nat, i + d = L.length → ∀ (e s st ap te ts tst tap : Int) (l o : List Int) (M : List S53) (ok : Bool), Run i e s l st ap te ts tst tap o M ok →
    ∀ k, 20000 * d + 400 ≤ k → standbylaw32_CommitRefuses.l0 k L (i : Int) e s l st ap te ts tst tap o M ok = some true
  | 0, i, hi, e, s, st, ap, te, ts, tst, tap, l, o, M, ok, h, k, hk => by
    obtain ⟨k, rfl⟩ : ∃ m, k = m + 1 := ⟨k - 1, by omega⟩
    unfold standbylaw32_CommitRefuses.l0
    rw [if_neg (by omega), awake_f k (by omega), h.okk]
    rfl
  | d + 1, i, hi, e, s, st, ap, te, ts, tst, tap, l, o, M, ok, h, k, hk => by
    obtain ⟨k, rfl⟩ : ∃ m, k = m + 1 := ⟨k - 1, by omega⟩
    unfold standbylaw32_CommitRefuses.l0
    rw [if_pos (by omega), if_pos (by omega)]
    obtain ⟨e', s', l', st', ap', te', ts', tst', tap', o', M', ok', hs, hN⟩ := step_f h (by omega) (rd_T71 L (i : Int)).f0 (rd_T71 L (i : Int)).f1 (hx _ (rd71 L i (by omega))) k (by omega)
    rw [hs]
    have hR := hN.run
    have hml := hR.mlen
    simp only [Option.bind_some]
    exact refuses_l1 L (i : Int) e' s' st' ap' te' ts' tst' tap' (i + 1) l' o' M' ok' hR (by omega) (20000 * d + 400) (by omega) (some true)
      (fun k hk => by rw [w64 (by omega), show (i : Int) + 1 = ((i + 1 : Nat) : Int) by omega]; exact refuses_l0 L hL hx d (i + 1) (by omega) _ _ _ _ _ _ _ _ _ _ _ _ hR k hk)
      M'.length 0 (by omega) k (by omega)
end Go.Proofs.Ytedoloapddmanaa.PB
