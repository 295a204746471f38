/- A step keeps the run in order. -/
import Derived.Test.YtedoloapddmanaaComA
import Derived.Test.YtedoloapddmanaaPBx28
import Derived.Test.YtedoloapddmanaaPBx299
namespace Go.Proofs.Ytedoloapddmanaa.PB
open Go.RowKit Go.Proofs.YtedoloapddmanaaW.PrintWords Go.Proofs.YtedoloapddmanaaW.PrintLast Go.Proofs.YtedoloapddmanaaW.PrintMore
set_option linter.unusedVariables false
set_option linter.unusedSimpArgs false
theorem ckS_ok {e s st ap : Int} {l : List Int} (he : 0 ≤ e ∧ e ≤ 1073741824) (hs : 0 ≤ s ∧ s < 4) (ha : 0 ≤ ap ∧ ap ≤ 1073741824) (hl : l.length ≤ 1024) (hr : risesB ap l = true) (hst : st = ap ∨ st ∈ l) : ckS e s l st ap = 0 := by
  unfold ckS rightB
  rw [decide_eq_true he, decide_eq_true hs, decide_eq_true ha, if_pos (by rfl), if_neg (by omega), if_pos hr]
  by_cases h : st = ap
  · rw [if_pos h]
  · rw [if_neg h, if_pos (hst.resolve_left h)]
theorem ckT_ok {e s st ap : Int} (he : 0 ≤ e ∧ e ≤ 1073741824) (hs : 0 ≤ s ∧ s < 4) (ha : 0 ≤ ap) (hb : ap ≤ st) (hc : st ≤ 1073741824) : ckT e s st ap = 0 := by
  unfold ckT
  rw [decide_eq_true he, decide_eq_true hs, if_pos (by rfl), if_neg (by omega), if_neg (by omega), if_neg (by omega)]
theorem lastOf_cons (a m : Int) (r : List Int) (h : r ≠ []) : lastOf a (m :: r) = lastOf m r := by
  cases r with
  | nil => exact absurd rfl h
  | cons x r =>
    unfold lastOf rd
    simp only [List.length_cons]
    rw [if_neg (by omega), if_neg (by omega)]
    rw [show ((((r.length + 1 + 1 : Nat) : Int) - 1)).toNat = r.length + 1 by omega, show ((((r.length + 1 : Nat) : Int) - 1)).toNat = r.length by omega]
    rfl
theorem lastOf_one (a m : Int) : lastOf a [m] = m := rfl
theorem lastOf_nil (a : Int) : lastOf a [] = a := rfl
theorem lastOf_mem (a : Int) : ∀ l : List Int, lastOf a l = a ∧ l = [] ∨ lastOf a l ∈ l
  | [] => .inl ⟨rfl, rfl⟩
  | [m] => .inr (by rw [lastOf_one]; simp)
  | m :: x :: r => by
    right
    rw [lastOf_cons a m (x :: r) (by simp)]
    rcases lastOf_mem m (x :: r) with ⟨-, h⟩ | h
    · cases h
    · exact List.mem_cons_of_mem _ h
theorem rises_cons {a m : Int} {r : List Int} (h1 : a < m) (h2 : m ≤ 1073741824) (h3 : risesB m r = true) : risesB a (m :: r) = true := by
  unfold risesB
  rw [if_neg (by omega), if_neg (by omega)]
  exact h3
theorem rises_append : ∀ (l : List Int) (a c : Int), risesB a l = true → lastOf a l < c → c ≤ 1073741824 → risesB a (l ++ [c]) = true
  | [], a, c, _, h, hc => rises_cons h hc rfl
  | [m], a, c, h, h2, hc => by
    obtain ⟨h3, h4, h5⟩ := rises_tail h
    exact rises_cons h3 h4 (rises_cons h2 hc rfl)
  | m :: x :: r, a, c, h, h2, hc => by
    obtain ⟨h3, h4, h5⟩ := rises_tail h
    rw [lastOf_cons a m (x :: r) (by simp)] at h2
    exact rises_cons h3 h4 (rises_append (x :: r) m c h5 h2 hc)
theorem rises_weak {a b : Int} {l : List Int} (h : risesB a l = true) (hb : ∀ x ∈ l, b < x) : risesB b l = true := by
  cases l with
  | nil => rfl
  | cons m r =>
    obtain ⟨h3, h4, h5⟩ := rises_tail h
    exact rises_cons (hb m (by simp)) h4 h5
theorem rises_filt (p : Int → Bool) : ∀ (l : List Int) (a : Int), risesB a l = true → risesB a (l.filter p) = true
  | [], _, _ => rfl
  | m :: r, a, h => by
    obtain ⟨h3, h4, h5⟩ := rises_tail h
    have ih := rises_filt p r m h5
    rw [List.filter_cons]
    split
    · exact rises_cons h3 h4 ih
    · exact rises_weak ih fun x hx => by have := rises_gt _ _ ih x hx; omega
theorem rd_mem (M : List S53) (i : Int) (h0 : 0 ≤ i) (h : i < (M.length : Int)) : rd_T53 M i ∈ M := by
  unfold rd_T53
  have hi : i.toNat < M.length := by omega
  rw [List.getD_eq_getElem?_getD, List.getElem?_eq_getElem hi]
  exact List.getElem_mem hi
theorem rdl_mem (l : List Int) (i : Int) (h0 : 0 ≤ i) (h : i < (l.length : Int)) : rd l i ∈ l := by
  unfold rd
  have hi : i.toNat < l.length := by omega
  rw [List.getD_eq_getElem?_getD, List.getElem?_eq_getElem hi]
  exact List.getElem_mem hi
/-- What a message says holds of the run. -/
structure Msg (e te tst tap : Int) (m : S53) : Prop where
  lo : 0 ≤ m.f5
  hi : m.f5 ≤ e
  tt : m.f0 = 8 ∨ m.f0 = 10 → m.f2 = 2
  ep : m.f0 = 9 ∨ m.f0 = 11 ∨ m.f0 = 12 → m.f1 = 2 ∧ m.f5 ≤ te
  ap : m.f0 = 11 → m.f4 ≤ tap
  st : m.f0 = 9 → m.f5 = te → m.f4 ≤ tst
/-- A run in order, behind n steps. -/
structure Run (n : Nat) (e s : Int) (l : List Int) (st ap te ts tst tap : Int) (o : List Int) (M : List S53) (ok : Bool) : Prop where
  okk : ok = true
  s2 : s = 2
  ts2 : ts = 2
  e0 : 0 ≤ te ∧ te ≤ e ∧ e ≤ 1 + (n : Int)
  te1 : e ≤ te + 1
  ris : risesB ap l = true
  hi : ∀ x ∈ l, x ≤ 3 + 2 * (n : Int)
  len : l.length ≤ n
  st1 : st = ap ∨ st ∈ l
  ap0 : 0 ≤ ap ∧ ap ≤ tap ∧ tap ≤ tst ∧ tst ≤ 3 + 2 * (n : Int)
  olen : o.length ≤ n
  mlen : M.length ≤ 70 * n
  dd : te < e → st = ap
  sb : e = te → st ≤ tst
  ff : ap < tap → tap ∈ l
  gg : e = te → ap < tst → tst ∈ l
  msg : ∀ m ∈ M, Msg e te tst tap m
section
variable {n : Nat} {e s st ap te ts tst tap : Int} {l o : List Int} {M : List S53} {ok : Bool}
theorem Run.ck (h : Run n e s l st ap te ts tst tap o M ok) (hn : n ≤ 60) : ckS e s l st ap = 0 :=
  ckS_ok ⟨by have := h.e0; omega, by have := h.e0; omega⟩ (by rw [h.s2]; decide) ⟨h.ap0.1, by have := h.ap0; omega⟩ (by have := h.len; omega) h.ris h.st1
theorem Run.ckt (h : Run n e s l st ap te ts tst tap o M ok) (hn : n ≤ 60) : ckT te ts tst tap = 0 :=
  ckT_ok ⟨h.e0.1, by have := h.e0; omega⟩ (by rw [h.ts2]; decide) (by have := h.ap0; omega) h.ap0.2.2.1 (by have := h.ap0; omega)
end
theorem Msg.mono {e te tst tap e' te' tst' tap' : Int} {m : S53} (h : Msg e te tst tap m) (h1 : e ≤ e') (h2 : te ≤ te') (h3 : tap ≤ tap') (h4 : te = te' → tst ≤ tst') : Msg e' te' tst' tap' m where
  lo := h.lo
  hi := by have := h.hi; omega
  tt := h.tt
  ep := fun k => ⟨(h.ep k).1, by have := (h.ep k).2; omega⟩
  ap := fun k => by have := h.ap k; omega
  st := fun k q => by
    have h5 := (h.ep (.inl k)).2
    have : te = te' := by omega
    have h6 := h.st k (by omega)
    have h7 := h4 this
    omega
/-- The run behind a step of a run. -/
structure Next (n : Nat) (ap te tap : Int) (M : List S53) (e' s' : Int) (l' : List Int) (st' ap' te' ts' tst' tap' : Int) (o' : List Int) (M' : List S53) (ok' : Bool) : Prop where
  run : Run (n + 1) e' s' l' st' ap' te' ts' tst' tap' o' M' ok'
  gap : ap ≤ ap'
  gte : te ≤ te'
  gtap : tap ≤ tap'
  new : ∃ ms, M' = M ++ ms ∧ ∀ m ∈ ms, m.f0 = 10 → m.f5 = te' → m.f3 ≤ tst'
section
variable {n : Nat} {e s st ap te ts tst tap : Int} {l o : List Int} {M : List S53} {ok : Bool}
/-- More messages, else nothing. -/
theorem Run.more (h : Run n e s l st ap te ts tst tap o M ok) (ms : List S53) (hl : ms.length ≤ 70) (hm : ∀ m ∈ ms, Msg e te tst tap m) (hc : ∀ m ∈ ms, m.f0 = 10 → m.f5 = te → m.f3 ≤ tst) :
    Next n ap te tap M e s l st ap te ts tst tap o (M ++ ms) ok where
  run := { h with
    e0 := by have := h.e0; omega
    hi := fun x hx => by have := h.hi x hx; omega
    len := by have := h.len; omega
    ap0 := by have := h.ap0; omega
    olen := by have := h.olen; omega
    mlen := by have := h.mlen; rw [List.length_append]; omega
    msg := fun m hmm => (List.mem_append.1 hmm).elim (h.msg m) (hm m) }
  gap := Int.le_refl _
  gte := Int.le_refl _
  gtap := Int.le_refl _
  new := ⟨ms, rfl, hc⟩
theorem Run.same (h : Run n e s l st ap te ts tst tap o M ok) : Next n ap te tap M e s l st ap te ts tst tap o M ok := by
  have := h.more [] (by simp) (by simp) (by simp)
  rwa [List.append_nil] at this
theorem Run.offer (h : Run n e s l st ap te ts tst tap o M ok) (hn : n ≤ 59) (cy : Int) (h1 : lastOf ap l < cy) (h2 : cy ≤ lastOf ap l + 2) :
    Next n ap te tap M e s (l ++ [cy]) st ap te ts tst tap (o ++ [cy]) (M ++ [⟨8, 0, s, cy, 0, e, (), ()⟩]) ok ∧ cy ≤ 1000 := by
  have hla : lastOf ap l ≤ 3 + 2 * (n : Int) := by
    rcases lastOf_mem ap l with ⟨h3, -⟩ | h3
    · rw [h3]; have := h.ap0; omega
    · exact h.hi _ h3
  refine ⟨⟨{ h with
    e0 := by have := h.e0; omega
    ris := rises_append l ap cy h.ris h1 (by omega)
    hi := fun x hx => by
      rcases List.mem_append.1 hx with hx | hx
      · have := h.hi x hx; omega
      · rw [List.mem_singleton.1 hx]; omega
    len := by have := h.len; simp; omega
    st1 := h.st1.imp id (fun z => List.mem_append_left _ z)
    ap0 := by have := h.ap0; omega
    olen := by have := h.olen; simp; omega
    mlen := by have := h.mlen; simp; omega
    ff := fun z => List.mem_append_left _ (h.ff z)
    gg := fun z y => List.mem_append_left _ (h.gg z y)
    msg := fun m hmm => (List.mem_append.1 hmm).elim (h.msg m) (fun hm => ?_) }, Int.le_refl _, Int.le_refl _, Int.le_refl _, _, rfl, fun m hm => ?_⟩, by omega⟩
  · rw [List.mem_singleton.1 hm]
    exact ⟨by have := h.e0; simp; omega, by simp, fun _ => h.s2, by simp, by simp, by simp⟩
  · rw [List.mem_singleton.1 hm]; simp
theorem Run.store (h : Run n e s l st ap te ts tst tap o M ok) (hn : n ≤ 59) (c : Int) (hc : c ∈ l) (h1 : tst < c) (he : e = te) :
    storeP te ts tst tap c = (te, ts, c, tap, [⟨9, ts, 0, 0, c, te, (), ()⟩], 0) ∧ Next n ap te tap M e s l st ap te ts c tap o (M ++ [⟨9, ts, 0, 0, c, te, (), ()⟩]) ok := by
  have hh := h.hi c hc
  refine ⟨by unfold storeP; rw [if_pos (h.ckt (by omega)), if_neg (by omega), if_neg (by omega)], ⟨{ h with
    e0 := by have := h.e0; omega
    hi := fun x hx => by have := h.hi x hx; omega
    len := by have := h.len; omega
    ap0 := by have := h.ap0; omega
    olen := by have := h.olen; omega
    mlen := by have := h.mlen; simp; omega
    sb := fun z => by have := h.sb z; omega
    gg := fun _ _ => hc
    msg := fun m hmm => (List.mem_append.1 hmm).elim (fun hm => (h.msg m hm).mono (Int.le_refl _) (Int.le_refl _) (Int.le_refl _) (fun _ => by omega)) (fun hm => ?_) }, Int.le_refl _, Int.le_refl _, Int.le_refl _, _, rfl, fun m hm => ?_⟩⟩
  · rw [List.mem_singleton.1 hm]
    exact ⟨by have := h.e0; simp; omega, by have := h.e0; simp; omega, by simp, fun _ => ⟨h.ts2, by simp⟩, by simp, by simp⟩
  · rw [List.mem_singleton.1 hm]; simp
theorem Run.apply (h : Run n e s l st ap te ts tst tap o M ok) (hn : n ≤ 59) (c : Int) (hc : c ∈ l) (h1 : tap < c) (h2 : c ≤ tst) :
    applyP te ts tst tap c = (te, ts, tst, c, [⟨11, ts, 0, 0, c, te, (), ()⟩], 0) ∧ Next n ap te tap M e s l st ap te ts tst c o (M ++ [⟨11, ts, 0, 0, c, te, (), ()⟩]) ok := by
  have hh := h.hi c hc
  refine ⟨by unfold applyP; rw [if_pos (h.ckt (by omega)), if_neg (by omega), if_neg (by omega)], ⟨{ h with
    e0 := by have := h.e0; omega
    hi := fun x hx => by have := h.hi x hx; omega
    len := by have := h.len; omega
    ap0 := by have := h.ap0; omega
    olen := by have := h.olen; omega
    mlen := by have := h.mlen; simp; omega
    ff := fun _ => hc
    msg := fun m hmm => (List.mem_append.1 hmm).elim (fun hm => (h.msg m hm).mono (Int.le_refl _) (Int.le_refl _) (by omega) (fun _ => Int.le_refl _)) (fun hm => ?_) }, Int.le_refl _, Int.le_refl _, ?_, _, rfl, fun m hm => ?_⟩⟩
  · rw [List.mem_singleton.1 hm]
    exact ⟨by have := h.e0; simp; omega, by have := h.e0; simp; omega, by simp, fun _ => ⟨h.ts2, by simp⟩, by simp, by simp⟩
  · show tap ≤ c; omega
  · rw [List.mem_singleton.1 hm]; simp
theorem Run.learn (h : Run n e s l st ap te ts tst tap o M ok) (hn : n ≤ 59) (m : S53) (hm : m ∈ M) :
    Next n ap te tap M ((learnP e s l st ap m.f0 m.f1 m.f4 m.f5).1) ((learnP e s l st ap m.f0 m.f1 m.f4 m.f5).2.1) ((learnP e s l st ap m.f0 m.f1 m.f4 m.f5).2.2.1) ((learnP e s l st ap m.f0 m.f1 m.f4 m.f5).2.2.2.1) ((learnP e s l st ap m.f0 m.f1 m.f4 m.f5).2.2.2.2.1) te ts tst tap o (M ++ (learnP e s l st ap m.f0 m.f1 m.f4 m.f5).2.2.2.2.2) ok := by
  have hM := h.msg m hm
  unfold learnP
  by_cases hC : ckS e s l st ap = 0 ∧ m.f1 = s ∧ e ≤ m.f5 ∧ m.f5 ≤ 1073741824 ∧ (m.f0 = 9 ∨ m.f0 = 11 ∨ m.f0 = 12)
  · rw [if_pos hC]
    have he : ¬ e < m.f5 := by have := hM.hi; omega
    rw [if_neg he]
    have hee : m.f5 = e := by have := hM.hi; omega
    have het : e = te := by have := (hM.ep hC.2.2.2.2).2; have := h.e0; omega
    by_cases h9 : m.f0 = 9 ∧ m.f4 ∈ l ∧ st ≤ m.f4
    · rw [if_pos h9]
      dsimp only
      have h4 := hM.st h9.1 (by omega)
      refine ⟨{ h with
        e0 := by have := h.e0; omega
        hi := fun x hx => by have := h.hi x hx; omega
        len := by have := h.len; omega
        st1 := .inr h9.2.1
        ap0 := by have := h.ap0; omega
        olen := by have := h.olen; omega
        mlen := by have := h.mlen; simp; omega
        dd := fun z => by omega
        sb := fun _ => h4
        msg := fun x hmm => (List.mem_append.1 hmm).elim (h.msg x) (fun hx => ?_) }, Int.le_refl _, Int.le_refl _, Int.le_refl _, _, rfl, fun x hx => ?_⟩
      · rw [List.mem_singleton.1 hx]
        exact ⟨by have := h.e0; simp; omega, by simp, fun _ => h.s2, by simp, by simp, by simp⟩
      · rw [List.mem_singleton.1 hx]; exact fun _ _ => h4
    · rw [if_neg h9]
      by_cases h11 : m.f0 = 11 ∧ m.f4 ∈ l
      · rw [if_pos h11]
        dsimp only
        have h4 := hM.ap h11.1
        have hg := rises_gt l ap h.ris _ h11.2
        have hfl : ∀ x, x ∈ l.filter (fun x => decide (m.f4 < x)) ↔ x ∈ l ∧ m.f4 < x := fun x => by simp [List.mem_filter]
        refine ⟨{ h with
          e0 := by have := h.e0; omega
          ris := rises_weak (rises_filt _ l ap h.ris) fun x hx => ((hfl x).1 hx).2
          hi := fun x hx => by have := h.hi x ((hfl x).1 hx).1; omega
          len := by have := h.len; have := List.length_filter_le (fun x => decide (m.f4 < x)) l; show (l.filter _).length ≤ _; omega
          st1 := ?_
          ap0 := by have := h.ap0; show 0 ≤ m.f4 ∧ m.f4 ≤ tap ∧ tap ≤ tst ∧ tst ≤ _; omega
          olen := by have := h.olen; omega
          mlen := by have := h.mlen; simp; omega
          dd := fun z => by omega
          sb := fun z => ?_
          ff := fun z => (hfl _).2 ⟨h.ff (by have : m.f4 < tap := z; omega), z⟩
          gg := fun y z => (hfl _).2 ⟨h.gg y (by have : m.f4 < tst := z; omega), z⟩
          msg := fun x hmm => (List.mem_append.1 hmm).elim (h.msg x) (fun hx => by simp at hx) }, ?_, Int.le_refl _, Int.le_refl _, _, rfl, by simp⟩
        · show (if st < m.f4 then m.f4 else st) = m.f4 ∨ (if st < m.f4 then m.f4 else st) ∈ l.filter _
          by_cases h5 : st < m.f4
          · rw [if_pos h5]; exact .inl rfl
          · rw [if_neg h5]
            rcases h.st1 with h6 | h6
            · left; omega
            · by_cases h7 : st = m.f4
              · exact .inl h7
              · exact .inr ((hfl _).2 ⟨h6, by omega⟩)
        · show (if st < m.f4 then m.f4 else st) ≤ tst
          have := h.sb het; have := h.ap0
          split <;> omega
        · show ap ≤ m.f4; omega
      · rw [if_neg h11]
        exact h.more [] (by simp) (by simp) (by simp)
  · rw [if_neg hC]
    exact h.more [] (by simp) (by simp) (by simp)
theorem Run.answer (h : Run n e s l st ap te ts tst tap o M ok) (hn : n ≤ 59) (m : S53) (hm : m ∈ M) :
    Next n ap te tap M e s l st ap ((answerP te ts tst tap m.f0 m.f2 m.f5).1) ((answerP te ts tst tap m.f0 m.f2 m.f5).2.1) ((answerP te ts tst tap m.f0 m.f2 m.f5).2.2.1) ((answerP te ts tst tap m.f0 m.f2 m.f5).2.2.2.1) o (M ++ (answerP te ts tst tap m.f0 m.f2 m.f5).2.2.2.2) ok := by
  have hM := h.msg m hm
  unfold answerP
  by_cases hC : ckT te ts tst tap = 0 ∧ m.f2 = ts ∧ (0 ≤ m.f5 ∧ m.f5 ≤ 1073741824) ∧ (m.f0 = 8 ∨ m.f0 = 10)
  · rw [if_pos hC]
    by_cases h1 : m.f5 < te
    · rw [if_pos h1]
      refine h.more _ (by simp) (fun x hx => ?_) (fun x hx => ?_)
      · rw [List.mem_singleton.1 hx]
        exact ⟨by have := h.e0; simp; omega, by have := h.e0; simp; omega, by simp, fun _ => ⟨h.ts2, by simp⟩, by simp, by simp⟩
      · rw [List.mem_singleton.1 hx]; simp
    rw [if_neg h1]
    by_cases h2 : te < m.f5
    · rw [if_pos h2]
      dsimp only
      have hhi := hM.hi
      have hst := h.dd (by omega)
      refine ⟨{ h with
        e0 := by have := h.e0; show 0 ≤ m.f5 ∧ m.f5 ≤ e ∧ _; omega
        te1 := by have := h.te1; show e ≤ m.f5 + 1; omega
        hi := fun x hx => by have := h.hi x hx; omega
        len := by have := h.len; omega
        ap0 := by have := h.ap0; show 0 ≤ ap ∧ ap ≤ tap ∧ tap ≤ tap ∧ tap ≤ _; omega
        olen := by have := h.olen; omega
        mlen := by have := h.mlen; simp; omega
        dd := fun z => hst
        sb := fun z => by have := h.ap0; show st ≤ tap; omega
        gg := fun _ z => h.ff z
        msg := fun x hmm => (List.mem_append.1 hmm).elim (fun hx => (h.msg x hx).mono (Int.le_refl _) (by show te ≤ m.f5; omega) (Int.le_refl _) (fun z => by have : te = m.f5 := z; omega)) (fun hx => ?_) }, Int.le_refl _, ?_, Int.le_refl _, _, rfl, fun x hx => ?_⟩
      · rw [List.mem_singleton.1 hx]
        refine ⟨hC.2.2.1.1, hhi, fun z => ?_, fun _ => ⟨h.ts2, Int.le_refl _⟩, fun _ => Int.le_refl _, fun _ _ => Int.le_refl _⟩
        simp only at z
        split at z <;> omega
      · show te ≤ m.f5; omega
      · rw [List.mem_singleton.1 hx]
        intro z
        simp only at z
        split at z <;> omega
    · rw [if_neg h2]
      refine h.more _ (by simp) (fun x hx => ?_) (fun x hx => ?_)
      · rw [List.mem_singleton.1 hx]
        refine ⟨h.e0.1, h.e0.2.1, fun z => ?_, fun _ => ⟨h.ts2, Int.le_refl _⟩, fun z => ?_, fun z _ => ?_⟩
        · simp only at z
          split at z <;> omega
        · simp only at z ⊢
          by_cases h8 : m.f0 = 8
          · rw [if_pos h8] at z; omega
          · rw [if_neg h8]; exact Int.le_refl _
        · simp only at z ⊢
          by_cases h8 : m.f0 = 8
          · rw [if_pos h8]; exact Int.le_refl _
          · rw [if_neg h8] at z; omega
      · rw [List.mem_singleton.1 hx]
        intro z
        simp only at z
        split at z <;> omega
  · rw [if_neg hC]
    exact h.more [] (by simp) (by simp) (by simp)
theorem Run.resend (h : Run n e s l st ap te ts tst tap o M ok) (hn : n ≤ 59) : Next n ap te tap M e s l st ap te ts tst tap o (M ++ resendP e s l st ap) ok := by
  have hlen := resendP_len e s st ap l
  have hq : ∀ m ∈ resendP e s l st ap, m.f5 = e ∧ m.f2 = 2 ∧ (m.f0 = 8 ∨ m.f0 = 10 ∧ m.f3 = st) := by
    intro m hm
    unfold resendP at hm
    rw [if_pos (h.ck (by omega))] at hm
    have hr : ∀ m ∈ rsMsgs e s st l, m.f5 = e ∧ m.f2 = 2 ∧ (m.f0 = 8 ∨ m.f0 = 10 ∧ m.f3 = st) := by
      intro m hm
      unfold rsMsgs at hm
      obtain ⟨c, -, rfl⟩ := List.mem_map.1 hm
      exact ⟨rfl, h.s2, .inl rfl⟩
    split at hm
    · rcases List.mem_append.1 hm with hm | hm
      · rw [List.mem_singleton.1 hm]; exact ⟨rfl, h.s2, .inr ⟨rfl, rfl⟩⟩
      · exact hr m hm
    · rw [List.nil_append] at hm; exact hr m hm
  refine h.more _ (by have := h.len; omega) (fun m hm => ?_) (fun m hm h10 h5 => ?_)
  · obtain ⟨q5, q2, q0⟩ := hq m hm
    exact ⟨by have := h.e0; omega, by omega, fun _ => q2, fun z => by omega, fun z => by omega, fun z => by omega⟩
  · obtain ⟨q5, q2, q0⟩ := hq m hm
    have := h.sb (by omega)
    omega
theorem Run.renew (h : Run n e s l st ap te ts tst tap o M ok) (hn : n ≤ 59) : Next n ap te tap M (te + 1) 2 [] tap tap te ts tst tap o M ok where
  run := { h with
    s2 := rfl
    e0 := by have := h.e0; show 0 ≤ te ∧ te ≤ te + 1 ∧ te + 1 ≤ _; omega
    te1 := Int.le_refl _
    ris := rfl
    hi := fun x hx => by simp at hx
    len := by simp
    st1 := .inl rfl
    ap0 := by have := h.ap0; show 0 ≤ tap ∧ tap ≤ tap ∧ tap ≤ tst ∧ tst ≤ _; omega
    olen := by have := h.olen; omega
    mlen := by have := h.mlen; omega
    dd := fun _ => rfl
    sb := fun z => by have : te + 1 = te := z; omega
    ff := fun z => by have : tap < tap := z; omega
    gg := fun z => by have : te + 1 = te := z; omega
    msg := fun m hm => (h.msg m hm).mono (by have := h.te1; show e ≤ te + 1; omega) (Int.le_refl _) (Int.le_refl _) (fun _ => Int.le_refl _) }
  gap := by have := h.ap0; show ap ≤ tap; omega
  gte := Int.le_refl _
  gtap := Int.le_refl _
  new := ⟨[], by simp, by simp⟩
end
/-- What a step comes to is the run's next state. -/
def Goes (n : Nat) (ap te tap : Int) (M : List S53) (r : Option (Int × Int × List Int × Int × Int × Int × Int × Int × Int × List Int × List S53 × Bool)) : Prop :=
  ∃ e' s' l' st' ap' te' ts' tst' tap' o' M' ok', r = some (e', s', l', st', ap', te', ts', tst', tap', o', M', ok') ∧ Next n ap te tap M e' s' l' st' ap' te' ts' tst' tap' o' M' ok'
section
variable {n : Nat} {e s st ap te ts tst tap : Int} {l o : List Int} {M : List S53} {ok : Bool}
theorem offerP_ok (h : Run n e s l st ap te ts tst tap o M ok) (hn : n ≤ 59) (cy : Int) (h1 : lastOf ap l < cy) (h2 : cy ≤ 1000) : offerP e s l st ap cy = (e, s, l ++ [cy], st, ap, [⟨8, 0, s, cy, 0, e, (), ()⟩], 0) := by
  unfold offerP
  rw [if_pos (h.ck (by omega)), if_neg (by omega), if_neg (by omega), if_neg (by have := h.len; omega)]
theorem last_bounds (h : Run n e s l st ap te ts tst tap o M ok) : 0 ≤ lastOf ap l ∧ lastOf ap l ≤ 3 + 2 * (n : Int) := by
  have := h.ap0
  rcases lastOf_mem ap l with ⟨h3, -⟩ | h3
  · rw [h3]; omega
  · have := h.hi _ h3; have := rises_gt l ap h.ris _ h3; omega
theorem step_offer (h : Run n e s l st ap te ts tst tap o M ok) (hn : n ≤ 59) (la x1 : Int) (hla : la = lastOf ap l) (hx1 : 0 ≤ x1) (k : Nat) (hk : 300 ≤ k) :
    Goes n ap te tap M ((commit_Offer.f k e s l st ap (wrap64 ((wrap64 (la + 1)) + (wrap64 (Int.tmod x1 2))))).bind fun bt579 => (if bt579.2.2.2.2.2.2 = 0 then (if o.length < 17592186044416 then (if M.length + bt579.2.2.2.2.2.1.length < 1466015503701 then (some (bt579.1, bt579.2.1, bt579.2.2.1, bt579.2.2.2.1, bt579.2.2.2.2.1, te, ts, tst, tap, (o ++ [wrap64 ((wrap64 (la + 1)) + (wrap64 (Int.tmod x1 2)))]), (M ++ bt579.2.2.2.2.2.1), ok)) else (none)) else (none)) else (none))) := by
  subst hla
  have hb := last_bounds h
  have h2 : 0 ≤ Int.tmod x1 2 ∧ Int.tmod x1 2 < 2 := ⟨Int.tmod_nonneg _ hx1, Int.tmod_lt_of_pos _ (by decide)⟩
  generalize Int.tmod x1 2 = z at h2 ⊢
  rw [w64 (x := z) (by omega), w64 (x := lastOf ap l + 1) (by omega), w64 (by omega)]
  have hlen := h.len
  obtain ⟨hx, hc⟩ := h.offer hn (lastOf ap l + 1 + z) (by omega) (by omega)
  rw [offer_f e s st ap _ l (by omega) k (by omega), offerP_ok h hn _ (by omega) hc]
  simp only [Option.bind_some, if_true, List.length_cons, List.length_nil]
  have h3 := h.olen; have h4 := h.mlen
  rw [if_pos (by omega), if_pos (by omega)]
  exact ⟨_, _, _, _, _, _, _, _, _, _, _, _, rfl, hx⟩
theorem step_l0 (h : Run n e s l st ap te ts tst tap o M ok) (hn : n ≤ 59) : ∀ d i : Nat, i + d = l.length → ∀ k, 2 * d + 2 ≤ k → Goes n ap te tap M (standbylaw32_step.l0 k [] (i : Int) e s l st ap te ts tst tap o M ok)
  | 0, i, hi, k, hk => by
    obtain ⟨k, rfl⟩ : ∃ m, k = m + 1 := ⟨k - 1, by omega⟩
    have h4 := h.mlen
    unfold standbylaw32_step.l0
    rw [if_neg (by omega), if_pos (by simp; omega), List.append_nil]
    exact ⟨_, _, _, _, _, _, _, _, _, _, _, _, rfl, h.same⟩
  | d + 1, i, hi, k, hk => by
    obtain ⟨k, rfl⟩ : ∃ m, k = m + 2 := ⟨k - 2, by omega⟩
    have h4 := h.mlen; have h5 := h.len
    have ih := step_l0 h hn d (i + 1) (by omega) k (by omega)
    have hw : wrap64 ((i : Int) + 1) = ((i + 1 : Nat) : Int) := by rw [w64 (by omega)]; omega
    have hj : ∀ b, (b = true → tst < rd l (i : Int) ∧ e = te) → Goes n ap te tap M (standbylaw32_step.j1 (k + 1) [] (i : Int) (rd l (i : Int)) b e s l st ap te ts tst tap o M ok) := by
      intro b hb
      unfold standbylaw32_step.j1
      cases b with
      | false => rw [if_neg Bool.false_ne_true, hw]; exact ih
      | true =>
        obtain ⟨h1, h2⟩ := hb rfl
        obtain ⟨hs, hx⟩ := h.store hn _ (rdl_mem l (i : Int) (by omega) (by omega)) h1 h2
        rw [if_pos (rfl : true = true), store_f te ts tst tap _ k (by omega), hs]
        simp only [Option.bind_some, if_true, List.length_cons, List.length_nil]
        rw [if_pos (by omega)]
        exact ⟨_, _, _, _, _, _, _, _, _, _, _, _, rfl, hx⟩
    unfold standbylaw32_step.l0
    rw [if_pos (by omega), if_pos (by omega)]
    by_cases h1 : rd l (i : Int) > tst
    · rw [if_pos h1]; exact hj _ fun z => ⟨h1, by simpa using z⟩
    · rw [if_neg h1]; exact hj _ fun z => by cases z
theorem step_l1 (h : Run n e s l st ap te ts tst tap o M ok) (hn : n ≤ 59) (x0 x1 : Int) : ∀ d : Nat, d ≤ l.length → ∀ k, 2 * d + 2 ≤ k → Goes n ap te tap M (standbylaw32_step.l1 k [] ((d : Int) - 1) e s l st ap te ts tst tap o M ok x0 x1)
  | 0, hi, k, hk => by
    obtain ⟨k, rfl⟩ : ∃ m, k = m + 1 := ⟨k - 1, by omega⟩
    have h4 := h.mlen
    unfold standbylaw32_step.l1
    rw [if_neg (by omega), if_pos (by simp; omega), List.append_nil]
    exact ⟨_, _, _, _, _, _, _, _, _, _, _, _, rfl, h.same⟩
  | d + 1, hi, k, hk => by
    obtain ⟨k, rfl⟩ : ∃ m, k = m + 2 := ⟨k - 2, by omega⟩
    have h4 := h.mlen; have h5 := h.len
    have ih := step_l1 h hn x0 x1 d (by omega) k (by omega)
    rw [show (((d + 1 : Nat) : Int) - 1) = (d : Int) by omega]
    have hw : wrap64 ((d : Int) - 1) = (d : Int) - 1 := w64 (by omega)
    have hj : ∀ b, (b = true → tap < rd l (d : Int) ∧ rd l (d : Int) ≤ tst) → Goes n ap te tap M (standbylaw32_step.j3 (k + 1) [] (d : Int) (rd l (d : Int)) b e s l st ap te ts tst tap o M ok x0 x1) := by
      intro b hb
      unfold standbylaw32_step.j3
      cases b with
      | false => rw [if_neg Bool.false_ne_true, hw]; exact ih
      | true =>
        obtain ⟨h1, h2⟩ := hb rfl
        obtain ⟨hs, hx⟩ := h.apply hn _ (rdl_mem l (d : Int) (by omega) (by omega)) h1 h2
        rw [if_pos (rfl : true = true), apply_f te ts tst tap _ k (by omega), hs]
        simp only [Option.bind_some, if_true, List.length_cons, List.length_nil]
        rw [if_pos (by omega)]
        exact ⟨_, _, _, _, _, _, _, _, _, _, _, _, rfl, hx⟩
    unfold standbylaw32_step.l1
    rw [if_pos (by omega), if_pos (by omega), if_pos (by omega)]
    by_cases h1 : rd l (d : Int) > tap
    · rw [if_pos h1]
      by_cases h2 : rd l (d : Int) ≤ tst
      · rw [if_pos h2]; exact hj _ fun z => ⟨h1, h2⟩
      · rw [if_neg h2]; exact hj _ fun z => by cases z
    · rw [if_neg h1]; exact hj _ fun z => by cases z
theorem step_f (h : Run n e s l st ap te ts tst tap o M ok) (hn : n ≤ 59) (x0 x1 : Int) (hx1 : 0 ≤ x1 ∧ x1 ≤ 255) (k : Nat) (hk : 300 ≤ k) : Goes n ap te tap M (standbylaw32_step.f k e s l st ap te ts tst tap o M ok x0 x1) := by
  have h4 := h.mlen; have h5 := h.len
  have hsame : Goes n ap te tap M (some (e, s, l, st, ap, te, ts, tst, tap, o, M, ok)) := ⟨_, _, _, _, _, _, _, _, _, _, _, _, rfl, h.same⟩
  unfold standbylaw32_step.f
  by_cases c0 : Int.tmod x0 7 = 0
  · rw [if_pos c0]
    by_cases hl : (l.length : Int) > 0
    · rw [if_pos hl, w64 (x := (l.length : Int) - 1) (by omega), if_pos (by omega), if_pos (by omega)]
      exact step_offer h hn _ x1 (by unfold lastOf; rw [if_neg (by omega)]) hx1.1 k hk
    · rw [if_neg hl]
      exact step_offer h hn _ x1 (by unfold lastOf; rw [if_pos (by omega)]) hx1.1 k hk
  rw [if_neg c0]
  by_cases c1 : Int.tmod x0 7 = 1
  · rw [if_pos c1]
    exact step_l0 h hn l.length 0 (by omega) k (by omega)
  rw [if_neg c1]
  by_cases c2 : Int.tmod x0 7 = 2
  · rw [if_pos c2, w64 (by omega)]
    exact step_l1 h hn x0 x1 l.length (Nat.le_refl _) k (by omega)
  rw [if_neg c2]
  have hidx : (M.length : Int) > 0 → 0 ≤ Int.tmod (wrap64 x1) (M.length : Int) ∧ Int.tmod (wrap64 x1) (M.length : Int) < (M.length : Int) := fun hp => by
    rw [w64 (by omega)]
    exact ⟨Int.tmod_nonneg _ hx1.1, Int.tmod_lt_of_pos _ (by omega)⟩
  generalize Int.tmod (wrap64 x1) (M.length : Int) = j at hidx ⊢
  by_cases c3 : Int.tmod x0 7 = 3
  · rw [if_pos c3]
    by_cases hp : (M.length : Int) > 0
    · have hj := hidx hp
      have hm := rd_mem M j hj.1 hj.2
      rw [if_pos hp, if_neg (by omega), if_pos hj.1, if_pos hj.2, learn_f e s st ap _ _ _ _ _ _ l _ _ (by omega) k (by omega), Option.bind_some]
      have hlen := (learnP_len e s st ap (rd_T53 M j).f0 (rd_T53 M j).f1 (rd_T53 M j).f4 (rd_T53 M j).f5 l).2
      rw [if_pos (by omega)]
      exact ⟨_, _, _, _, _, _, _, _, _, _, _, _, rfl, h.learn hn _ hm⟩
    · rw [if_neg hp]; exact hsame
  rw [if_neg c3]
  by_cases c4 : Int.tmod x0 7 = 4
  · rw [if_pos c4]
    by_cases hp : (M.length : Int) > 0
    · have hj := hidx hp
      have hm := rd_mem M j hj.1 hj.2
      rw [if_pos hp, if_neg (by omega), if_pos hj.1, if_pos hj.2, answer_f te ts tst tap _ _ _ _ _ _ _ _ k (by omega), Option.bind_some]
      have hlen := answerP_len te ts tst tap (rd_T53 M j).f0 (rd_T53 M j).f2 (rd_T53 M j).f5
      rw [if_pos (by omega)]
      exact ⟨_, _, _, _, _, _, _, _, _, _, _, _, rfl, h.answer hn _ hm⟩
    · rw [if_neg hp]; exact hsame
  rw [if_neg c4]
  by_cases c5 : Int.tmod x0 7 = 5
  · rw [if_pos c5, resend_f e s st ap l (by omega) k (by omega), Option.bind_some]
    have hlen := resendP_len e s st ap l
    rw [if_pos (by omega)]
    exact ⟨_, _, _, _, _, _, _, _, _, _, _, _, rfl, h.resend hn⟩
  rw [if_neg c5]
  have h6 := h.e0; have h7 := h.ap0
  rw [w64 (by omega), newS_f, show rightB (te + 1) 2 tap = true from by unfold rightB; rw [decide_eq_true (by omega), decide_eq_true (by omega), decide_eq_true (by omega)]; rfl, if_pos (rfl : true = true), Option.bind_some]
  simp only [if_true]
  split
  · exact ⟨_, _, _, _, _, _, _, _, _, _, _, _, rfl, h.renew hn⟩
  · exact hsame
end
/-- The run's beginning. -/
theorem begin_f : standbylaw32_begin.f = some (1, 2, [], 3, 3, 1, 2, 3, 3, [], [], true) := by unfold standbylaw32_begin.f; rw [newS_f, newT_f]; rfl
theorem begin_run : Run 0 1 2 [] 3 3 1 2 3 3 [] [] true where
  okk := rfl
  s2 := rfl
  ts2 := rfl
  e0 := by decide
  te1 := by decide
  ris := rfl
  hi := by simp
  len := by simp
  st1 := .inl rfl
  ap0 := by decide
  olen := by simp
  mlen := by simp
  dd := by decide
  sb := by decide
  ff := by decide
  gg := by decide
  msg := by simp
theorem rd71 (L : List S71) (i : Nat) (h : i < L.length) : rd_T71 L (i : Int) ∈ L := by
  unfold rd_T71
  rw [Int.toNat_natCast, List.getD_eq_getElem?_getD, List.getElem?_eq_getElem h]
  exact List.getElem_mem h
theorem drop53 (M : List S53) (i : Nat) (h : i < M.length) : M.drop i = rd_T53 M (i : Int) :: M.drop (i + 1) := by
  rw [List.drop_eq_getElem_cons h]
  congr 1
  unfold rd_T53
  rw [Int.toNat_natCast, List.getD_eq_getElem?_getD, List.getElem?_eq_getElem h]
  rfl
end Go.Proofs.Ytedoloapddmanaa.PB
