-- Written by a program of this session (wip/tools) over the kit's print.
import Derived.Test.YtedoloapddmanaaPBx0
import Derived.Test.YtedoloapddmanaaSh
import Derived.Test.YtedoloapddmanaaPBx2
import Derived.Test.YtedoloapddmanaaPBx3
import Derived.Test.YtedoloapddmanaaPBx7
import Derived.Test.YtedoloapddmanaaPBx8
namespace Go.Proofs.Ytedoloapddmanaa.PB
open Go.RowKit Go.Proofs.YtedoloapddmanaaW.PrintWords Go.Proofs.YtedoloapddmanaaW.PrintLast Go.Proofs.YtedoloapddmanaaW.PrintMore
attribute [local go_sem] max2_int min2_int max_two min_two max_three min_three max_four min_four   -- for this text's walks alone
set_option linter.unusedVariables false
set_option linter.unusedSimpArgs false
theorem learn_V_old {w w' : World} {P : Nat → Prop} {v : Value} {l : List Int} (h : Kd.V (Kd.int .i64) 3 w w.heap.size (fun k_ => P k_) v l) (hb : Below w.heap.size w w') :
    Kd.V (Kd.int .i64) 3 w' w.heap.size (fun k_ => (P k_ ∨ w.heap.size ≤ k_) ∧ some k_ ≠ (Value.slice none 0 0).ownBlock) v l :=
  Kd.V_mono (Kd.V_below h hb) (fun k hk => ⟨.inl hk, by simp [Value.ownBlock]⟩)
theorem learn_V_new {w w' : World} {P : Nat → Prop} {e : Ending} {r1 r2 r4 r5 : Int} {r3 : List Int} {r6 : List S53} (h : ∃ v2_ v5_ : Value, e = .returned (.tuple #[.agg #[.int .i64 r1, .int .i64 r2, v2_, .int .i64 r4, .int .i64 r5], v5_]) ∧ Kd.Q (Kd.int .i64) 3 w' w.heap.size (fun _ => True) v2_ r3 ∧ Kd.R k53 53 w' w.heap.size (fun _ => True) v5_ r6 ∧ Below w.heap.size w w') :
    ∃ v2_ v5_ : Value, e = .returned (.tuple #[.agg #[.int .i64 r1, .int .i64 r2, v2_, .int .i64 r4, .int .i64 r5], v5_]) ∧ Kd.V (Kd.int .i64) 3 w' w.heap.size (fun k_ => (P k_ ∨ w.heap.size ≤ k_) ∧ some k_ ≠ (v5_ : Value).ownBlock) v2_ r3 ∧ Kd.R k53 53 w' w.heap.size (fun k_ => (w.heap.size ≤ k_)) v5_ r6 ∧ Below w.heap.size w w' := by
  obtain ⟨v2, v5, he, hq, hr, hb⟩ := h
  exact ⟨v2, v5, he, Kd.Q_V (Kd.Q_mono (Kd.Q_bound (Kd.Q_apart' hq (Kd.R_typed hr) (by decide))) (fun k hk => ⟨.inr hk.2.1, hk.1.2⟩)), Kd.R_mono (Kd.R_bound hr) (fun k hk => hk.2.1), hb⟩
def commit_Learn.f (k : Nat) (a0_0 : Int) (a0_1 : Int) (l0_2 : List Int) (a0_3 : Int) (a0_4 : Int) (a1_0 : Int) (a1_1 : Int) (a1_2 : Int) (a1_3 : Int) (a1_4 : Int) (a1_5 : Int) (a1_6 : Unit) (a1_7 : Unit) : Option (Int × Int × List Int × Int × Int × (List (S53))) :=
  if l0_2.length ≤ 100000 then (commit_CheckSource.f k a0_0 a0_1 l0_2 a0_3 a0_4).bind fun c => if c = 0 then (if a1_1 = a0_1 then (if a1_5 < a0_0 then some (a0_0, a0_1, l0_2, a0_3, a0_4, []) else (commit_time.f a1_5).bind fun t => if t = true then
    (if a1_0 = 9 then (if a0_0 < a1_5 then some (a1_5, a0_1, [], a0_4, a0_4, []) else (slices_Contains_int_int.f k l0_2 a1_4).bind fun b => if b = true then (if a0_3 ≤ a1_4 then some (a0_0, a0_1, l0_2, a1_4, a0_4, [⟨10, 0, a0_1, a1_4, 0, a0_0, (), ()⟩]) else some (a0_0, a0_1, l0_2, a0_3, a0_4, [])) else some (a0_0, a0_1, l0_2, a0_3, a0_4, []))
     else if a1_0 = 11 then (if a0_0 < a1_5 then some (a1_5, a0_1, [], a0_4, a0_4, []) else (slices_Index_int_int.f k l0_2 a1_4).bind fun i => if 0 ≤ i then (if i < (l0_2.length : Int) then some (a0_0, a0_1, l0_2.drop (i + 1).toNat, (if a0_3 < a1_4 then a1_4 else a0_3), a1_4, []) else none) else some (a0_0, a0_1, l0_2, a0_3, a0_4, []))
     else if a1_0 = 12 then (if a0_0 < a1_5 then some (a1_5, a0_1, [], a0_4, a0_4, []) else some (a0_0, a0_1, l0_2, a0_3, a0_4, [])) else some (a0_0, a0_1, l0_2, a0_3, a0_4, [])) else some (a0_0, a0_1, l0_2, a0_3, a0_4, [])) else some (a0_0, a0_1, l0_2, a0_3, a0_4, [])) else some (a0_0, a0_1, l0_2, a0_3, a0_4, []) else none
theorem commit_Learn.mono : ∀ a0 a1 a2 a3 a4 a5 a6 a7 a8 a9 a10 a11 a12 k, LeO (commit_Learn.f k a0 a1 a2 a3 a4 a5 a6 a7 a8 a9 a10 a11 a12) (commit_Learn.f (k + 1) a0 a1 a2 a3 a4 a5 a6 a7 a8 a9 a10 a11 a12) := by
  intro a0 a1 a2 a3 a4 a5 a6 a7 a8 a9 a10 a11 a12 k
  unfold commit_Learn.f
  repeat' first
    | exact LeO.refl _
    | exact LeO.none _
    | exact commit_CheckSource.mono _ _ _ _ _ _
    | exact slices_Contains_int_int.mono _ _ _
    | exact slices_Index_int_int.mono _ _ _
    | refine LeO.ite ?_ ?_
    | refine LeO.bind ?_ (fun _ => ?_)
theorem commit_Learn.calls (k : Nat) (a0_0 : Int) (a0_1 : Int) (P0_2_ : Nat → Prop) (A0_2 : Option Addr) (c0_2 : Nat) (l0_2 : List Int) (a0_3 : Int) (a0_4 : Int) (a1_0 : Int) (a1_1 : Int) (a1_2 : Int) (a1_3 : Int) (a1_4 : Int) (a1_5 : Int) (a1_6 : Unit) (q1_6 : Value) (a1_7 : Unit) (q1_7 : Value) (r1 : Int) (r2 : Int) (r3 : List Int) (r4 : Int) (r5 : Int) (r6 : List (S53)) (w : World) (hs0_2 : Kd.V (Kd.int .i64) 3 w w.heap.size (fun k_ => P0_2_ k_) (.slice A0_2 l0_2.length c0_2) l0_2) (h : commit_Learn.f k a0_0 a0_1 l0_2 a0_3 a0_4 a1_0 a1_1 a1_2 a1_3 a1_4 a1_5 a1_6 a1_7 = some (r1, r2, r3, r4, r5, r6)) :
    Calls Try.prog 29 #[.agg #[.int .i64 a0_0, .int .i64 a0_1, .slice A0_2 l0_2.length c0_2, .int .i64 a0_3, .int .i64 a0_4], .agg #[.int .i64 a1_0, .int .i64 a1_1, .int .i64 a1_2, .int .i64 a1_3, .int .i64 a1_4, .int .i64 a1_5, q1_6, q1_7]] w fun e w' => ∃ v2_ v5_ : Value, e = .returned (.tuple #[.agg #[.int .i64 r1, .int .i64 r2, v2_, .int .i64 r4, .int .i64 r5], v5_]) ∧ Kd.V (Kd.int .i64) 3 w' w.heap.size (fun k_ => (P0_2_ k_ ∨ w.heap.size ≤ k_) ∧ some k_ ≠ (v5_ : Value).ownBlock) v2_ r3 ∧ Kd.R k53 53 w' w.heap.size (fun k_ => (w.heap.size ≤ k_)) v5_ r6 ∧ Below w.heap.size w w' := by
  obtain ⟨-, hc, hr⟩ := Kd.V_reads' hs0_2
  unfold commit_Learn.f at h
  by_cases hl : l0_2.length ≤ 100000
  rotate_left
  · rw [if_neg hl] at h; cases h
  rw [if_pos hl] at h
  obtain ⟨c, he, h⟩ := Option.bind_eq_some_iff.1 h
  by_cases h0 : c = 0
  rotate_left
  · rw [if_neg h0] at h
    simp only [Option.some.injEq, Prod.mk.injEq] at h
    obtain ⟨rfl, rfl, rfl, rfl, rfl, rfl⟩ := h
    exact (learn_err k a0_0 a0_1 a0_3 a0_4 A0_2 c0_2 l0_2 a1_0 a1_1 a1_2 a1_3 a1_4 a1_5 q1_6 q1_7 w c hr hc he h0).mono fun _ _ hh => ⟨_, _, hh.1, learn_V_old hs0_2 hh.2, Kd.R_nil _ _ _ _ _, hh.2⟩
  rw [if_pos h0] at h
  subst h0
  by_cases h1 : a1_1 = a0_1
  rotate_left
  · rw [if_neg h1] at h
    simp only [Option.some.injEq, Prod.mk.injEq] at h
    obtain ⟨rfl, rfl, rfl, rfl, rfl, rfl⟩ := h
    exact (learn_site k a0_0 a0_1 a0_3 a0_4 A0_2 c0_2 l0_2 a1_0 a1_1 a1_2 a1_3 a1_4 a1_5 q1_6 q1_7 w hr hc he h1).mono fun _ _ hh => ⟨_, _, hh.1, learn_V_old hs0_2 hh.2, Kd.R_nil _ _ _ _ _, hh.2⟩
  rw [if_pos h1] at h
  by_cases h2 : a1_5 < a0_0
  · rw [if_pos h2] at h
    simp only [Option.some.injEq, Prod.mk.injEq] at h
    obtain ⟨rfl, rfl, rfl, rfl, rfl, rfl⟩ := h
    exact (learn_old k a0_0 a0_1 a0_3 a0_4 A0_2 c0_2 l0_2 a1_0 a1_1 a1_2 a1_3 a1_4 a1_5 q1_6 q1_7 w hr hc he h1 h2).mono fun _ _ hh => ⟨_, _, hh.1, learn_V_old hs0_2 hh.2, Kd.R_nil _ _ _ _ _, hh.2⟩
  rw [if_neg h2] at h
  obtain ⟨t, ht, h⟩ := Option.bind_eq_some_iff.1 h
  cases t with
  | false =>
    rw [if_neg (by decide)] at h
    simp only [Option.some.injEq, Prod.mk.injEq] at h
    obtain ⟨rfl, rfl, rfl, rfl, rfl, rfl⟩ := h
    exact (learn_time k a0_0 a0_1 a0_3 a0_4 A0_2 c0_2 l0_2 a1_0 a1_1 a1_2 a1_3 a1_4 a1_5 q1_6 q1_7 w hr hc he h1 h2 ht).mono fun _ _ hh => ⟨_, _, hh.1, learn_V_old hs0_2 hh.2, Kd.R_nil _ _ _ _ _, hh.2⟩
  | true =>
    rw [if_pos rfl] at h
    by_cases k9 : a1_0 = 9
    · rw [if_pos k9] at h
      by_cases h3 : a0_0 < a1_5
      · rw [if_pos h3] at h
        simp only [Option.some.injEq, Prod.mk.injEq] at h
        obtain ⟨rfl, rfl, rfl, rfl, rfl, rfl⟩ := h
        exact (learn_new k a0_0 a0_1 a0_3 a0_4 A0_2 c0_2 l0_2 a1_0 a1_1 a1_2 a1_3 a1_4 a1_5 q1_6 q1_7 w hr hc he h1 h2 ht (by omega) (.inl k9) h3).mono fun _ _ hh => learn_V_new hh
      rw [if_neg h3] at h
      obtain ⟨b, hb, h⟩ := Option.bind_eq_some_iff.1 h
      cases b with
      | false =>
        rw [if_neg (by decide)] at h
        simp only [Option.some.injEq, Prod.mk.injEq] at h
        obtain ⟨rfl, rfl, rfl, rfl, rfl, rfl⟩ := h
        exact (learn_stored_no k a0_0 a0_1 a0_3 a0_4 A0_2 c0_2 l0_2 a1_0 a1_1 a1_2 a1_3 a1_4 a1_5 q1_6 q1_7 w hr hc he h1 h2 ht (by omega) k9 (by omega) false hb (.inl rfl)).mono fun _ _ hh => learn_V_new hh
      | true =>
        rw [if_pos rfl] at h
        by_cases h4 : a0_3 ≤ a1_4
        · rw [if_pos h4] at h
          simp only [Option.some.injEq, Prod.mk.injEq] at h
          obtain ⟨rfl, rfl, rfl, rfl, rfl, rfl⟩ := h
          exact (learn_stored_yes k a0_0 a0_1 a0_3 a0_4 A0_2 c0_2 l0_2 a1_0 a1_1 a1_2 a1_3 a1_4 a1_5 q1_6 q1_7 w hr hc he h1 h2 ht (by omega) k9 (by omega) hb h4).mono fun _ _ hh => learn_V_new hh
        · rw [if_neg h4] at h
          simp only [Option.some.injEq, Prod.mk.injEq] at h
          obtain ⟨rfl, rfl, rfl, rfl, rfl, rfl⟩ := h
          exact (learn_stored_no k a0_0 a0_1 a0_3 a0_4 A0_2 c0_2 l0_2 a1_0 a1_1 a1_2 a1_3 a1_4 a1_5 q1_6 q1_7 w hr hc he h1 h2 ht (by omega) k9 (by omega) true hb (.inr (by omega))).mono fun _ _ hh => learn_V_new hh
    rw [if_neg k9] at h
    by_cases k11 : a1_0 = 11
    · rw [if_pos k11] at h
      by_cases h3 : a0_0 < a1_5
      · rw [if_pos h3] at h
        simp only [Option.some.injEq, Prod.mk.injEq] at h
        obtain ⟨rfl, rfl, rfl, rfl, rfl, rfl⟩ := h
        exact (learn_new k a0_0 a0_1 a0_3 a0_4 A0_2 c0_2 l0_2 a1_0 a1_1 a1_2 a1_3 a1_4 a1_5 q1_6 q1_7 w hr hc he h1 h2 ht (by omega) (.inr (.inl k11)) h3).mono fun _ _ hh => learn_V_new hh
      rw [if_neg h3] at h
      obtain ⟨i, hi, h⟩ := Option.bind_eq_some_iff.1 h
      by_cases h4 : 0 ≤ i
      · rw [if_pos h4] at h
        by_cases h5 : i < (l0_2.length : Int)
        · rw [if_pos h5] at h
          simp only [Option.some.injEq, Prod.mk.injEq] at h
          obtain ⟨rfl, rfl, rfl, rfl, rfl, rfl⟩ := h
          exact (learn_applied_yes k a0_0 a0_1 a0_3 a0_4 A0_2 c0_2 l0_2 a1_0 a1_1 a1_2 a1_3 a1_4 a1_5 q1_6 q1_7 w hr hc he h1 h2 ht (by omega) k11 (by omega) i _ hi h4 h5 rfl).mono fun _ _ hh => learn_V_new hh
        · rw [if_neg h5] at h; cases h
      · rw [if_neg h4] at h
        simp only [Option.some.injEq, Prod.mk.injEq] at h
        obtain ⟨rfl, rfl, rfl, rfl, rfl, rfl⟩ := h
        exact (learn_applied_no k a0_0 a0_1 a0_3 a0_4 A0_2 c0_2 l0_2 a1_0 a1_1 a1_2 a1_3 a1_4 a1_5 q1_6 q1_7 w hr hc he h1 h2 ht (by omega) k11 (by omega) i hi (by omega)).mono fun _ _ hh => learn_V_new hh
    rw [if_neg k11] at h
    by_cases k12 : a1_0 = 12
    · rw [if_pos k12] at h
      by_cases h3 : a0_0 < a1_5
      · rw [if_pos h3] at h
        simp only [Option.some.injEq, Prod.mk.injEq] at h
        obtain ⟨rfl, rfl, rfl, rfl, rfl, rfl⟩ := h
        exact (learn_new k a0_0 a0_1 a0_3 a0_4 A0_2 c0_2 l0_2 a1_0 a1_1 a1_2 a1_3 a1_4 a1_5 q1_6 q1_7 w hr hc he h1 h2 ht (by omega) (.inr (.inr k12)) h3).mono fun _ _ hh => learn_V_new hh
      rw [if_neg h3] at h
      simp only [Option.some.injEq, Prod.mk.injEq] at h
      obtain ⟨rfl, rfl, rfl, rfl, rfl, rfl⟩ := h
      exact (learn_refused k a0_0 a0_1 a0_3 a0_4 A0_2 c0_2 l0_2 a1_0 a1_1 a1_2 a1_3 a1_4 a1_5 q1_6 q1_7 w hr hc he h1 h2 ht (by omega) k12 (by omega)).mono fun _ _ hh => learn_V_new hh
    rw [if_neg k12] at h
    simp only [Option.some.injEq, Prod.mk.injEq] at h
    obtain ⟨rfl, rfl, rfl, rfl, rfl, rfl⟩ := h
    exact (learn_other k a0_0 a0_1 a0_3 a0_4 A0_2 c0_2 l0_2 a1_0 a1_1 a1_2 a1_3 a1_4 a1_5 q1_6 q1_7 w hr hc he h1 h2 ht (by omega) ⟨k9, k11, k12⟩).mono fun _ _ hh => learn_V_new hh
end Go.Proofs.Ytedoloapddmanaa.PB
