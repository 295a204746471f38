-- Written by a program of this session (wip/tools) over the kit's print.
import Derived.Test.YtppniempndnghaaPAx0
namespace Go.Proofs.Ytppniempndnghaa.PA
open Go.RowKit Go.Proofs.YtppniempndnghaaW.PrintWords Go.Proofs.YtppniempndnghaaW.PrintLast Go.Proofs.YtppniempndnghaaW.PrintMore
attribute [local go_sem] max2_int min2_int max_two min_two max_three min_three max_four min_four   -- for this text's walks alone
set_option linter.unusedVariables false
set_option linter.unusedSimpArgs false

-- @OURS@
/-! ### throttle_state_open: function 29 -/
theorem own_enters {P : Program} {f : FuncId} {fn : Func} {c : Code} (hf : P.funcs[f]? = some fn) (hname : (fn.name == "runtime.NumGoroutine") = false) (hb : fn.body = some c) : ∀ (args : Array Value) (w : World), (callFunc f args).run P w = .ok (.enter f args) w := by
  intro args w
  have h1 : fn.name ≠ "runtime.NumGoroutine" := by simpa using hname
  simp [callFunc, hf, h1, hb, mark]

/-- The first index at which a predicate holds, from i on; -1 without one. -/
def idxFrom {α : Type} (p : α → Bool) : List α → Nat → Int
  | [], _ => -1
  | x :: r, i => if p x then (i : Int) else idxFrom p r (i + 1)

theorem idxFrom_hit {α : Type} (p : α → Bool) (d : α) : ∀ (l : List α) (b k : Nat), k < l.length → (∀ j, j < k → p (l.getD j d) = false) → p (l.getD k d) = true → idxFrom p l b = ((b + k : Nat) : Int)
  | [], b, k, h, _, _ => by simp at h
  | x :: r, b, 0, _, _, h2 => by
    have : p x = true := h2
    simp [idxFrom, this]
  | x :: r, b, k + 1, h, h1, h2 => by
    have h0 : p x = false := h1 0 (by omega)
    have := idxFrom_hit p d r (b + 1) k (by simpa using h) (fun j hj => h1 (j + 1) (by omega)) h2
    simp only [idxFrom, h0, Bool.false_eq_true, if_false]
    rw [this]; congr 1; omega
theorem idxFrom_miss {α : Type} (p : α → Bool) (d : α) : ∀ (l : List α) (b : Nat), (∀ j, j < l.length → p (l.getD j d) = false) → idxFrom p l b = -1
  | [], _, _ => rfl
  | x :: r, b, h => by
    have h0 : p x = false := h 0 (by simp)
    simp only [idxFrom, h0, Bool.false_eq_true, if_false]
    exact idxFrom_miss p d r (b + 1) (fun j hj => h (j + 1) (by simpa using hj))

set_option maxHeartbeats 2000000 in
theorem mark_more (x : S71) (c : Int) (B : Nat) (w : World) (hB : B < w.heap.size) (hc : w.cell? ⟨B, 0, none⟩ = some (.int .i64 c)) :
    Calls Try.prog 43 (#[.agg #[.int .i64 x.f0, .int .i64 x.f1]] ++ #[.pointer (some ⟨B, 0, none⟩)]) w fun e w' => e = .returned (.bool (decide (x.f1 > c))) ∧ Below w.heap.size w w' := by
  have hu71 := Try.underlying71
  have hc2 : (w.alloc (.cells #[.int .i64 x.f0, .int .i64 x.f1] 71)).cell? ⟨B, 0, none⟩ = some (.int .i64 c) := by
    rw [World.cell?_alloc_past _ _ _ hB]; exact hc
  go_enter Try.func43, Try.ntmps43
  go_wp2
  go_ret
  exact ⟨by first | rfl | simp, (Below.refl _ _).alloc (Nat.le_refl _) _⟩

set_option maxHeartbeats 4000000 in
set_option maxRecDepth 100000 in
theorem mark_index (p : S71 → Bool) (g : Nat) (lb : Array Value) (eg : ∀ args w, (callFunc g args).run Try.prog w = .ok (.enter g args) w) (A : Option Addr) (c : Nat) (l : List S71) (w : World) (hr : Kd.C k71 w A l.length l)
    (hp : ∀ (W : World) (x : S71), Below w.heap.size w W → Calls Try.prog g (#[.agg #[.int .i64 x.f0, .int .i64 x.f1]] ++ lb) W fun e w' => e = .returned (.bool (p x)) ∧ Below W.heap.size W w') :
    Calls Try.prog 53 #[.slice A l.length c, .func (.func g) #[] lb] w fun e w' => e = .returned (.int .i64 (idxFrom p l 0)) ∧ Below w.heap.size w w' := by
  have hu71 := Try.underlying71
  have hbig : l.length ≤ 9223372036854775807 := hr.2.1
  have HR := Aside0.mk hr
  clear hr
  have HP := Aside0.mk hp
  clear hp
  go_enter Try.func53, Try.ntmps53
  go_wp2
  go_loopg [5, 8] l.length (fun gg _ s8 wr => ∃ kk : Nat, kk ≤ l.length ∧ l.length - kk ≤ gg ∧ s8 = .int .i64 kk ∧ Aside0 (Below w.heap.size w wr) ∧ Aside0 (∀ j, j < kk → p (l.getD j z71) = false))
  case atStart => exact ⟨0, Nat.zero_le _, by omega, rfl, ⟨Below.refl _ w⟩, ⟨fun j hj => absurd hj (Nat.not_lt_zero _)⟩⟩
  case round =>
    obtain ⟨kk, hkk, hg, rfl, BW, HA⟩ := hrel
    by_cases hlt : kk < l.length
    · have hltz : (kk : Int) < (l.length : Int) := by omega
      obtain ⟨ad, e, hx0, hx1⟩ := at_T71 HR.out (kk : Int) (by omega) hltz
      cases e
      replace hx0 := (BW.out.cell (World.block_lt_of_cell? w _ hx0)).trans hx0
      replace hx1 := (BW.out.cell (World.block_lt_of_cell? w _ hx1)).trans hx1
      simp only [Int.toNat_natCast] at hx0 hx1
      have hcall := HP.out _ (rd_T71 l (kk : Int)) BW.out
      have HY : Aside0 (l.getD kk z71 = rd_T71 l (kk : Int)) := ⟨by unfold rd_T71; simp⟩
      cases hq : p (rd_T71 l (kk : Int)) with
      | true =>
        rw [hq] at hcall
        have HC := Aside0.mk hcall
        have HQ := Aside0.mk hq
        clear hcall hq
        go_wp2_with fail
        refine HC.out.mono ?_
        rintro e w' ⟨rfl, hb'⟩
        clear HC
        go_wp2
        go_ret
        refine ⟨?_, BW.out.trans (hb'.mono BW.out.size)⟩
        rw [idxFrom_hit p z71 l 0 kk hlt HA.out (by rw [HY.out]; exact HQ.out)]
        simp
      | false =>
        rw [hq] at hcall
        have HC := Aside0.mk hcall
        have HQ := Aside0.mk hq
        clear hcall hq
        go_wp2_with fail
        refine HC.out.mono ?_
        rintro e w' ⟨rfl, hb'⟩
        clear HC
        go_wp2
        go_roundg (l.length - (kk + 1))
        case measure => omega
        case rel =>
          refine ⟨kk + 1, by omega, by omega, by go_num, ⟨BW.out.trans (hb'.mono BW.out.size)⟩, ⟨fun j hj => ?_⟩⟩
          by_cases e : j = kk
          · subst e
            rw [HY.out]; exact HQ.out
          · exact HA.out j (by omega)
    · have hd : decide (kk < l.length) = false := decide_eq_false (by omega)
      have hk := Aside0.mk (show kk = l.length by omega)
      clear hlt
      go_wp2
      go_ret
      refine ⟨?_, BW.out⟩
      rw [idxFrom_miss p z71 l 0 (by have := HA.out; rw [hk.out] at this; exact this)]
      rfl

set_option maxHeartbeats 4000000 in
set_option maxRecDepth 100000 in
theorem state_first (p : S71 → Bool) (g : Nat) (lb : Array Value) (eg : ∀ args w, (callFunc g args).run Try.prog w = .ok (.enter g args) w) (a0 a1 a2 a3 : Int) (A : Option Addr) (c : Nat) (l : List S71) (w : World) (hr : Kd.C k71 w A l.length l)
    (hp : ∀ (W : World) (x : S71), Below w.heap.size w W → Calls Try.prog g (#[.agg #[.int .i64 x.f0, .int .i64 x.f1]] ++ lb) W fun e w' => e = .returned (.bool (p x)) ∧ Below W.heap.size W w') :
    Calls Try.prog 42 #[.agg #[.int .i64 a0, .int .i64 a1, .int .i64 a2, .int .i64 a3, .slice A l.length c], .func (.func g) #[] lb] w fun e w' => e = .returned (.int .i64 (if idxFrom p l 0 ≥ 0 then idxFrom p l 0 else l.length)) ∧ Below w.heap.size w w' := by
  have hu73 := Try.underlying73
  have hi := mark_index p g lb eg A c l
  have HR := Aside0.mk hr
  have HP := Aside0.mk hp
  clear hr hp
  have hb0 : ∀ cs, Below w.heap.size w (w.alloc (.cells cs 73)) := fun cs => (Below.refl _ _).alloc (Nat.le_refl _) _
  generalize idxFrom p l 0 = i at hi
  have HI := Aside0.mk hi
  clear hi
  by_cases hge : i ≥ 0
  · rw [if_pos hge]
    have hd : decide (0 ≤ i) = true := decide_eq_true hge
    clear hge
    go_enter Try.func42, Try.ntmps42
    go_wp2_with fail
    refine (HI.out _ (Kd.C_below HR.out (hb0 _)) (fun W x hb => HP.out W x ((hb0 _).trans (hb.mono (hb0 _).size)))).mono ?_
    rintro e w' ⟨rfl, hb'⟩
    go_wp2
    go_ret
    exact ⟨rfl, (hb0 _).trans (hb'.mono (hb0 _).size)⟩
  · rw [if_neg hge]
    have hd : decide (0 ≤ i) = false := decide_eq_false hge
    clear hge
    go_enter Try.func42, Try.ntmps42
    go_wp2_with fail
    refine (HI.out _ (Kd.C_below HR.out (hb0 _)) (fun W x hb => HP.out W x ((hb0 _).trans (hb.mono (hb0 _).size)))).mono ?_
    rintro e w' ⟨rfl, hb'⟩
    have hcc : w'.cell? ⟨w.heap.size, 4, none⟩ = some (.slice A l.length c) := (hb'.cell (p := ⟨w.heap.size, 4, none⟩) (by simp)).trans (by rw [World.cell?_alloc_at _ _ _ _ rfl]; rfl)
    go_wp2
    go_ret
    exact ⟨rfl, (hb0 _).trans (hb'.mono (hb0 _).size)⟩

def throttle_state_open.f (a0_0 : Int) (a0_1 : Int) (a0_2 : Int) (a0_3 : Int) (l0_4 : List (S71)) (a1 : Int) : Option (Int) :=
  some (if idxFrom (fun x : S71 => decide (x.f1 > a1)) l0_4 0 ≥ 0 then idxFrom (fun x : S71 => decide (x.f1 > a1)) l0_4 0 else l0_4.length)
set_option maxHeartbeats 4000000 in
set_option maxRecDepth 100000 in
theorem throttle_state_open.calls (a0_0 : Int) (a0_1 : Int) (a0_2 : Int) (a0_3 : Int) (A0_4 : Option Addr) (c0_4 : Nat) (l0_4 : List (S71)) (a1 : Int) (r : Int) (w : World) (hr0_4 : Kd.C k71 w A0_4 l0_4.length l0_4) (hc0_4 : l0_4.length ≤ c0_4) (h : throttle_state_open.f a0_0 a0_1 a0_2 a0_3 l0_4 a1 = some r) :
    Calls Try.prog 29 #[.agg #[.int .i64 a0_0, .int .i64 a0_1, .int .i64 a0_2, .int .i64 a0_3, .slice A0_4 l0_4.length c0_4], .int .i64 a1] w fun e w' => e = .returned (.int .i64 r) ∧ Below w.heap.size w w' := by
  have hmf : ∀ (fn : Fn) (first cap : Array Value) (w : World), (Instr.makeFunc fn first cap).run Try.prog w = .ok (.func fn first cap) w := fun _ _ _ _ => rfl
  have hu73 := Try.underlying73
  obtain rfl := Option.some.inj h
  have HR := Aside0.mk hr0_4
  clear hr0_4 h
  have hb0 : ∀ cs, Below w.heap.size w ((w.alloc (.cells cs 73)).alloc (.cells #[.int .i64 a1] 3)) := fun cs => ((Below.refl _ _).alloc (Nat.le_refl _) _).alloc (by simp) _
  have eg := own_enters Try.func43 (by kernel_rfl) rfl
  have hf := state_first (fun x : S71 => decide (x.f1 > a1)) 43 #[.pointer (some ⟨w.heap.size + 1, 0, none⟩)] eg a0_0 a0_1 a0_2 a0_3 A0_4 c0_4 l0_4
  have HF := Aside0.mk hf
  clear hf
  generalize (if idxFrom (fun x : S71 => decide (x.f1 > a1)) l0_4 0 ≥ 0 then idxFrom (fun x : S71 => decide (x.f1 > a1)) l0_4 0 else (l0_4.length : Int)) = i at HF
  go_enter Try.func29, Try.ntmps29
  go_wp2_with fail
  refine (HF.out _ (Kd.C_below HR.out (hb0 _)) (fun W x hb => mark_more x a1 _ W (Nat.lt_of_lt_of_le (by simp) hb.size) ((hb.cell (p := ⟨w.heap.size + 1, 0, none⟩) (by simp)).trans (by rw [World.cell?_alloc_at _ _ _ _ (by simp)]; rfl)))).mono ?_
  rintro e w' ⟨rfl, hb'⟩
  go_wp2
  go_ret
  exact ⟨rfl, (hb0 _).trans (hb'.mono (hb0 _).size)⟩

end Go.Proofs.Ytppniempndnghaa.PA
