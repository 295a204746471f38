/- Plain laws of commit: searches, comparisons of messages. -/
import Derived.Test.YtedoloapddmanaaPBx17
import Derived.Test.YtedoloapddmanaaPBx18
import Derived.Test.YtedoloapddmanaaCom1
namespace Go.Proofs.Ytedoloapddmanaa.PB
open Go.RowKit Go.Proofs.YtedoloapddmanaaW.PrintWords Go.Proofs.YtedoloapddmanaaW.PrintLast Go.Proofs.YtedoloapddmanaaW.PrintMore
set_option linter.unusedVariables false
set_option linter.unusedSimpArgs false
theorem rises_gt : ∀ (l : List Int) (a : Int), risesB a l = true → ∀ x ∈ l, a < x
  | [], _, _, x, hx => by simp at hx
  | m :: r, a, h, x, hx => by
    unfold risesB at h
    by_cases h1 : m ≤ a
    · rw [if_pos h1] at h; cases h
    rw [if_neg h1] at h
    by_cases h2 : m > 1073741824
    · rw [if_pos h2] at h; cases h
    rw [if_neg h2] at h
    rcases List.mem_cons.1 hx with rfl | hx
    · omega
    · have := rises_gt r m h x hx; omega
theorem rises_tail {m a : Int} {r : List Int} (h : risesB a (m :: r) = true) : a < m ∧ m ≤ 1073741824 ∧ risesB m r = true := by
  unfold risesB at h
  by_cases h1 : m ≤ a
  · rw [if_pos h1] at h; cases h
  rw [if_neg h1] at h
  by_cases h2 : m > 1073741824
  · rw [if_pos h2] at h; cases h
  rw [if_neg h2] at h
  exact ⟨by omega, by omega, h⟩
theorem rises_filter : ∀ (l : List Int) (a n : Int), risesB a l = true → n ∈ l → l.filter (fun x => decide (n < x)) = l.drop (l.idxOf n + 1)
  | [], _, n, _, hn => by simp at hn
  | m :: r, a, n, h, hn => by
    obtain ⟨h1, h2, h3⟩ := rises_tail h
    by_cases e : n = m
    · subst e
      have : r.filter (fun x => decide (n < x)) = r := List.filter_eq_self.2 fun x hx => by simpa using rises_gt r n h3 x hx
      simp [this]
    · have hn' : n ∈ r := (List.mem_cons.1 hn).resolve_left e
      have hg := rises_gt r m h3 n hn'
      rw [List.filter_cons, if_neg (by simp; omega), rises_filter r m n h3 hn', List.idxOf_cons, show (m == n) = false by simpa using fun h => e h.symm, cond_false]
      rfl
theorem ck0 {e s st ap : Int} {l : List Int} (h : ckS e s l st ap = 0) : (0 ≤ e ∧ e ≤ 1073741824) ∧ (0 ≤ s ∧ s < 4) ∧ (0 ≤ ap ∧ ap ≤ 1073741824) ∧ l.length ≤ 1024 ∧ risesB ap l = true ∧ (st = ap ∨ st ∈ l) := by
  unfold ckS at h
  by_cases h1 : rightB e s ap = true
  · rw [if_pos h1] at h
    unfold rightB at h1
    simp only [Bool.and_eq_true, decide_eq_true_eq] at h1
    by_cases h2 : (l.length : Int) > 1024
    · rw [if_pos h2] at h; cases h
    rw [if_neg h2] at h
    by_cases h3 : risesB ap l = true
    · rw [if_pos h3] at h
      refine ⟨h1.1, h1.2.1, h1.2.2, by omega, h3, ?_⟩
      by_cases h4 : st = ap
      · exact .inl h4
      · rw [if_neg h4] at h
        by_cases h5 : st ∈ l
        · exact .inr h5
        · rw [if_neg h5] at h; cases h
    · rw [if_neg h3] at h; cases h
  · rw [if_neg h1] at h; cases h
theorem sameMsg_f (k : Nat) (hk : 2 ≤ k) (x0 x1 x2 x3 x4 x5 : Int) (x6 x7 y6 y7 : Unit) : standbyref26_SameMessage.f k x0 x1 x2 x3 x4 x5 x6 x7 x0 x1 x2 x3 x4 x5 y6 y7 = some true := by
  obtain ⟨k, rfl⟩ : ∃ m, k = m + 2 := ⟨k - 2, by omega⟩
  unfold standbyref26_SameMessage.f
  rw [if_pos rfl, if_pos rfl, if_pos rfl, if_pos rfl, if_pos rfl, if_pos rfl]
  rfl
theorem sameMsgs_l0 (l : List S53) (hl : l.length ≤ 1000000) : ∀ (d i : Nat), i + d = l.length → ∀ k, d + 3 ≤ k → standbyref26_SameMessages.l0 k l l (i : Int) = some true
  | 0, i, h, k, hk => by
    obtain ⟨k, rfl⟩ : ∃ m, k = m + 1 := ⟨k - 1, by omega⟩
    unfold standbyref26_SameMessages.l0
    rw [if_neg (by omega)]
  | d + 1, i, h, k, hk => by
    obtain ⟨k, rfl⟩ : ∃ m, k = m + 1 := ⟨k - 1, by omega⟩
    unfold standbyref26_SameMessages.l0
    rw [if_pos (by omega), if_pos (by omega), if_pos (by omega), sameMsg_f k (by omega), Option.bind_some, if_pos rfl, w64 (by omega), show ((i : Int) + 1) = ((i + 1 : Nat) : Int) by omega]
    exact sameMsgs_l0 l hl d (i + 1) (by omega) k (by omega)
theorem sameMsgs_f (l : List S53) (hl : l.length ≤ 1000000) (k : Nat) (hk : l.length + 3 ≤ k) : standbyref26_SameMessages.f k l l = some true := by
  unfold standbyref26_SameMessages.f
  rw [if_pos rfl]
  exact sameMsgs_l0 l hl l.length 0 (by omega) k (by omega)
end Go.Proofs.Ytedoloapddmanaa.PB
